/- Contracts: products and inverses modulo a polynomial, of the program. Own work; no condition. -/
import Derived.Test.YtkkccchkmcjcpaaGreatU6
import Derived.Test.YtkkccchkmcjcpaaGreatU5
import Derived.Test.YtkkccchkmcjcpaaGreatU3
import Derived.Test.YtkkccchkmcjcpaaGreatU4
set_option linter.defProp false
set_option linter.unusedVariables false
set_option linter.unusedSimpArgs false
set_option linter.unnecessarySimpa false
namespace Go.El
open Go Go.Proofs
abbrev vN:C:= .V (.slice none 0 0)
def akC(a b:List Int)(p:Int)(h:a=[]∨b=[]):aG Tryz.prog 94 [aP a p,aP b p] (.a [vN,.I .u64 p]):=by
 refine aX Tryz.func94 ae ae ae ae ae ak ?_;refine rr ae (aj (rb ?_));refine rg 12 ae ae (λh1=>?_) (λh1=>?_)
 ·exact re ae (ax ae (λh2=>rr ae (aF (bS (aL ar ae (au.refl _))))) (λh2=>by cases h2))
 ·have h1:¬(a.length:Int)=0:=kU h1;have ha:a≠[]:=λe=>h1 (by rw[e];rfl)
  refine re ae (ax ae (λh2=>rr ae (aF (bS (aL ar ae (au.refl _))))) (λh2=>?_));exfalso;have h2:¬(b.length:Int)=0:=kU h2;exact h2 (by rw[h.resolve_left ha];rfl)
def akD:aG Tryz.prog 181 [.c vN] (.c vN):=by refine aX Tryz.func181 ae ae ae ae ae ak ?_;refine rr ae (aj (rb (rx ae ae ah (re ae ?_))));exact ax ae (λh=>rr ae (aF (bS (aL ar ae (au.refl _))))) (λh=>by cases h)
def akE(b:List Int)(p:Int)(lb:b.length≤1000)(hb:b≠[]):aG Tryz.prog 127 [.a [vN,.I .u64 p],aP b p] (.t [(true,[.S aM [],.I .u64 p]),(true,[.S aM [],.I .u64 p])]):=by
 refine aX Tryz.func127 ae ae ae ae ae ak ?_;have hl:=cZ.2 hb;refine rr ae (rb (rc ae ae akD (re ae (rb (rc ae ae (uv b p af) (re ae (aj (rr ae ?_))))))));refine ax ae (λh=>?_) (λh=>?_)
 ·refine rr ae (aF (bS (aL ar ae ?_)));refine⟨?_,λid al=>by cases al⟩;rintro g v ⟨vs,rfl,v1,r1,rfl,⟨us,rfl,v2,r2,rfl,h1,h2⟩,w1,r3,rfl,⟨Q3,rfl,v3,r4,rfl,h3,h4⟩,h5⟩;exact⟨_,ae,_,_,ae,⟨_,ae,v2,r2,ae,(au.nil aM).1 g v2 h1,h2⟩,_,_,ae,⟨_,ae,v3,r4,ae,(au.nil aM).1 g v3 h3,h4⟩,h5⟩
 ·exfalso;have h:¬(0:Int)≤(b.length:Int)-1:=bC h;omega
def ZU{p:Nat}(hp:dN p){a b:List Int}(ha:bX p a)(hb:bX p b)(yI:a≠[])(eB:b≠[]):eD a b p≠[]:=λe=>by have h:=xh a b p;rw[e,ux]at h;obtain⟨n,hn⟩:∃n,a.length=n+1:=⟨a.length-1,by have:=cZ.2 yI;omega⟩;obtain⟨m,hm⟩:∃m,b.length=m+1:=⟨b.length-1,by have:=cZ.2 eB;omega⟩;have h2:=yG hp (hn▸kl p a) (hm▸kl p b) (ha.top hn) (hb.top hm);rw[←h.at (n+m),PS.lZ,dk]at h2;exact h2 ae
def Im(p:Nat)(hp:dN p)(dp:p≤2147483648)(f a b:List Int)(lf:f.length≤400)(la:a.length≤400)(lb:b.length≤400)(hf:bX p f)(ha:bX p a)(hb:bX p b)(iU:f≠[]):aG Tryz.prog 159 [aP f p,aP a p,aP b p] (aP (bM (eD a b p) f p).2 p):=by
 refine aX Tryz.func159 ae ae ae ae ae ak ?_;have h2:=hp.1;have hl:=cZ.2 iU;have qy:=Ig a b p;by_cases h:a=[]∨b=[]
 ·have e:(bM (eD a b p) f p).2=[]:=by rw[eD,aw h,bM,aw be]
  rw[e];exact rr ae (rb (rc ae ae (akC a b p h) (rc ae ae (akE f p af iU) (re ae (rr ae (aF (aL ar ae (au.refl _))))))))
 ·have yI:a≠[]:=λe=>h (.inl e)
  have eB:b≠[]:=λe=>h (.inr e)
  exact rr ae (rb (rc ae ae (Ia a b p af af af af ha.1 hb.1) (rc ae ae (yH p hp dp _ f af af (nK af a b).1 hf (ZU hp ha hb yI eB) iU) (re ae (rr ae (aF (aL ar ae (au.refl _))))))))
def pS(p:Int):Nat→List Int→List Int→List Int→List Int→List Int×List Int
 |0,last,_,u,_=>(last,u)
 |k+1,last,next,u,v=>if next=[]then(last,u)else pS p k next (bM last next p).2 v (a7 (jv u (p-1) (eD (bM last next p).1 v p) p))
def kV(p:Int)(f m:List Int):List Int:=
 (bM (eD (pS p (f.length+1) m f [] [1]).2 (a7 [((ia ((pS p (f.length+1) m f [] [1]).1.getD 0 0).toNat p.toNat:Nat):Int)]) p) m p).2
structure AB(p:Int)(F M:PS)(L:Nat)(last next u v:List Int):Prop where
 cl:bX p last
 cn:bX p next
 cu:bX p u
 cv:bX p v
 lt:next.length<last.length
 lu:u.length+last.length≤L+1
 lv:v.length+last.length≤L+1
 eu:∃W,aY p W∧Cg p (ps u*F) (ps last+W*M)
 ev:∃W,aY p W∧Cg p (ps v*F) (ps next+W*M)
 xj:gy p (ps last) (ps next)
def akF(p:Int)(A:PS):Cg p (PS.K (p-1)*A) (-A):=by rw[PS.neg_eq];exact Cg.Sp (by rw[show p-1= -1+p*1 by omega,Kp]) A
def AB.vne{p:Nat}(hp:dN p){F M:PS}{L:Nat}{last next u v:List Int}(h:AB p F M L last next u v){n:Nat}(hM:Dl p (n+1) M)(hMn:M n%p≠0)(hn:next.length≤n)(h0:next≠[]):v≠[]:=λe=>by
 obtain⟨W,hW,hc⟩:=h.ev;rw[e,ux,PS.zero_mul]at hc;obtain⟨m,hW⟩:=hW;have h1:Cg p (0*M+0) (W*M+ps next):=by rw[PS.zero_mul,PS.add_zero,PS.add_comm];exact hc
 obtain⟨_,h2⟩:=ZN hp hM hMn (m:=m) (Cl _ _) hW (Cl _ _) ((kl p next).le hn) h1;exact h0 (akr h.cn h2.symm)
def AB.next{p:Nat}(hp:dN p)(dp:p≤2147483648){F M:PS}{L:Nat}{last next u v:List Int}(h:AB p F M L last next u v)(h0:next≠[]):AB p F M L next (bM last next p).2 v (a7 (jv u (p-1) (eD (bM last next p).1 v p) p)):=by
 have h2:=hp.1;have cL:(0:Int)<(p:Int):=af;obtain⟨d1,d2,d3,d4,d5,d6⟩:=lD hp dp h.cl.1 h.cn h0;have hl:=cZ.2 h0;have br:=h.lt;have hlu:=h.lu;have hlv:=h.lv;have kh:=ZT u (p-1) (eD (bM last next p).1 v p) p;have sK:Cg p (ps (a7 (jv u (p-1) (eD (bM last next p).1 v p) p))) (ps u-ps (bM last next p).1*ps v):=by rw[Cq,PS.sub_def];exact kh.trans (((akF p _).trans (xh _ _ _).neg).Sb _)
 have hlen:=vJ (jv u (p-1) (eD (bM last next p).1 v p) p);rw[Mn]at hlen;have qy:=Ig (bM last next p).1 v p;obtain⟨W1,yJ,e1⟩:=h.eu;obtain⟨W2,Sw,e2⟩:=h.ev;refine⟨h.cn,d5 h.cl,h.cv,nJ cL (Ik cL h.cu.1 _ _),by omega,by omega,by omega,⟨W2,Sw,e2⟩,⟨W1-ps (bM last next p).1*W2,yJ.sub ((aY.ps _ _).mul Sw),?_⟩,h.xj.step (aY.ps _ _) d1⟩;generalize ps (bM last next p).1=Q at*;generalize ps (bM last next p).2=R at*;refine(sK.qR F).trans ?_;rw[PS.sub_def,PS.add_mul,PS.neg_mul,PS.mul_assoc];refine(e1.add (e2.vH Q).neg).trans ?_;have e3:Cg p (ps last+W1*M+ -(Q*(ps next+W2*M))) ((Q*ps next+R)+W1*M+ -(Q*(ps next+W2*M))):=(d1.oW _).oW _;refine e3.trans (Cg.of_eq ?_);rw[PS.mul_add,PS.neg_add,PS.sub_def,PS.add_mul,PS.neg_mul,PS.mul_assoc];have:Q*ps next+R+W1*M+(-(Q*ps next)+ -(Q*(W2*M)))=(Q*ps next+ -(Q*ps next))+(R+(W1*M+ -(Q*(W2*M)))):=kN
 rw[this,PS.add_neg,PS.zero_add]
def akI{p:Nat}(hp:dN p)(dp:p≤2147483648){f:List Int}(hf:bX p f)(h:gy p (ps f) (ps [])):f.length=1:=by have h2:=hp.1;have:=(Mk hp dp 1 f [] hf (vI af) be).2.1.1 h;rwa[pR,aw ae]at this
def Sx{p:Nat}(hp:dN p)(dp:p≤2147483648){F M:PS}{L:Nat}:∀(k:Nat)(last next u v:List Int),next.length<k→AB p F M L last next u v→(pS p k last next u v).1.length=1∧bX p (pS p k last next u v).1∧bX p (pS p k last next u v).2∧(pS p k last next u v).2.length≤L∧∃W,aY p W∧Cg p (ps (pS p k last next u v).2*F) (ps (pS p k last next u v).1+W*M)
 |0,_,_,_,_,h,_=>by omega
 |k+1,last,next,u,v,hk,h=>by
  rw[pS];split
  ·rename_i e;have hc:=h.xj;rw[e]at hc;have h1:=akI hp dp h.cl hc;have h3:=h.lu;exact⟨h1,h.cl,h.cu,by show u.length≤L;omega,h.eu⟩
  ·rename_i e;have h3:=h.next hp dp e;have h4:=h3.lt;exact Sx hp dp k _ _ _ _ af h3
def Sy{p:Nat}(hp:dN p){f m:List Int}(hf:bX p f)(hm:bX p m)(br:f.length<m.length)(hc:gy p (ps f) (ps m)):AB p (ps f) (ps m) m.length m f [] [1]:=by
 have h2:=hp.1;have cL:(0:Int)<(p:Int):=af;refine⟨hm,hf,vI cL,⟨xi ak af,.inr be⟩,br,by simp,by simp;omega,⟨-1,(aY.one _).neg,?_⟩,⟨0,aY.zero _,?_⟩,hc.symm⟩
 ·rw[ux,PS.zero_mul,PS.neg_mul,PS.one_mul,PS.add_neg];exact Cg.refl _ _
 ·rw[Cr,PS.one_mul,PS.zero_mul,PS.add_zero];exact Cg.refl _ _
def ZW{p:Nat}(hp:dN p)(dp:p≤2147483648){f m:List Int}(hf:bX p f)(hm:bX p m)(br:f.length<m.length)(hc:gy p (ps f) (ps m))(mJ:2≤m.length):bX p (kV p f m)∧(kV p f m).length≤m.length-1∧(∃W,aY p W∧Cg p (ps (kV p f m)*ps f) (1+W*ps m))∧(pS p (f.length+1) m f [] [1]).2≠[]:=by
 have h2:=hp.1;have cL:(0:Int)<(p:Int):=af;obtain⟨h1,h3,h4,h5,W,hW,h6⟩:=Sx hp dp (f.length+1) m f [] [1] (fT _) (Sy hp hf hm br hc);rw[kV];generalize (pS p (f.length+1) m f [] [1]).1=last at*;generalize (pS p (f.length+1) m f [] [1]).2=u at*;have h7:=h3.1 0;have h8:last.getD 0 0≠0:=λe=>h3.top (n:=0) af Gr
 have h9:=Ay hp dp h7.1 h7.2 h8;have el:ps last=PS.K (last.getD 0 0):=PS.ext λi=>by
  unfold PS.K;split
  ·rename_i e;subst e;rfl
  ·exact dH last af
 have ju:m≠[]:=λe=>by rw[e]at mJ;simp at mJ
 generalize ((ia (last.getD 0 0).toNat ((p:Nat):Int).toNat:Nat):Int)=s at*;have Ag:s≠0:=λe=>by rw[e,et,dk]at h9;cases h9
 rw[Ij Ag];obtain⟨d1,d2,d3,d4,d5,d6⟩:=lD hp dp (nK cL u [s]).1 hm ju;have Mp:=xh u [s] p;rw[akz]at Mp;have Io:Cg p (PS.K s*(ps u*ps f)) (1+PS.K s*W*ps m):=by refine(h6.vH (PS.K s)).trans ?_;rw[PS.mul_add,el,←PS.tk,PS.EV,PS.mul_assoc];exact(Cg.K (by rw[fh,h9,iZ ak af])).oW _
 refine⟨d5 (nK cL u [s]),d4,⟨PS.K s*W-ps (bM (eD u [s] p) m p).1*ps f,((aY.K _ _).mul hW).sub ((aY.ps _ _).mul (aY.ps _ _)),?_⟩,λe=>?_⟩
 ·generalize ps (bM (eD u [s] p) m p).1=Q at*;generalize ps (bM (eD u [s] p) m p).2=R at*;have e1:Cg p (Q*ps m+R) (ps u*PS.K s):=d1.symm.trans Mp;have e2:R*ps f=(Q*ps m+R)*ps f+ -(Q*ps f*ps m):=by
   rw[PS.add_mul];have:Q*ps m*ps f+R*ps f+ -(Q*ps f*ps m)=R*ps f+(Q*ps m*ps f+ -(Q*ps m*ps f)):=by rw[show Q*ps f*ps m=Q*ps m*ps f by ac_rfl];ac_rfl
   rw[this,PS.add_neg,PS.add_zero]
  rw[e2];refine((e1.qR (ps f)).oW _).trans ?_;rw[show ps u*PS.K s*ps f=PS.K s*(ps u*ps f)by ac_rfl];refine(Io.oW _).trans (Cg.of_eq ?_);rw[PS.sub_def,PS.add_mul,PS.neg_mul];ac_rfl
 ·rw[e,ux,PS.zero_mul,PS.mul_zero]at Io;obtain⟨n,hn⟩:∃n,m.length=n+1:=⟨m.length-1,by omega⟩;obtain⟨w,hw⟩:=(aY.K p s).mul hW;have rY:Cg p (0*ps m+0) (PS.K s*W*ps m+1):=by rw[PS.zero_mul,PS.add_zero,PS.add_comm];exact Io
  obtain⟨_,h11⟩:=ZN hp (hn▸kl p m) (hm.top hn) (m:=w) (Cl _ _) hw (Cl _ n) ((Mc p).le af) rY;have:=h11.at 0;rw[PS.lZ,dk]at this;have En:(0:Int)=1%(p:Int):=this;rw[iZ ak af]at En;cases En
set_option maxHeartbeats 4000000 in
def akK(p:Nat)(hp:dN p)(dp:p≤2147483648)(f m:List Int)(lm:m.length≤200)(hf:bX p f)(hm:bX p m)(br:f.length<m.length)(hc:gy p (ps f) (ps m))(mJ:2≤m.length):aG Tryz.prog 160 [aP f p,aP m p] (aP (kV p f m) p):=by
 refine aX Tryz.func160 ae ae ae ae ae ak ?_;have h2:=hp.1;have cL:(0:Int)<(p:Int):=af;have vE:(p:Int)≠0:=af;obtain⟨n,hn⟩:∃n,m.length=n+1:=⟨m.length-1,by omega⟩;have ju:m≠[]:=λe=>by rw[e]at mJ;simp at mJ
 obtain⟨z1,z2,z3,z4⟩:=ZW hp dp hf hm br hc mJ;obtain⟨y1,y2,y3,y4,_⟩:=Sx hp dp (f.length+1) m f [] [1] (fT _) (Sy hp hf hm br hc);have nE:=AA f 0 p cL af ak cL;have lQ:=AA f 1 p cL af ak af;rw[show a7 [(0:Int)]=[]from ae]at nE;rw[show a7 [(1:Int)]=[1]from ae]at lQ;refine rr ae (rr ae (rb (rc ae ae nE (rc ae ae lQ (re ae ?_)))));refine aj (aH (bA (α:=Nat×List Int×List Int×List Int×List Int) (λx=>⟨[(2,.c (.P 0 0)),(3,.c (.P 1000 0)),(4,.c (.P 2000 0)),(5,.c (.P 1002000 0)),(6,.c (.P 1003000 0)),(7,.c (.P 2004000 0)),(8,.c (.P 2005000 0))],[(0,.box 101 0 [.S aM f,.I .u64 p]),(1000,.box 101 0 [.S aM m,.I .u64 p]),(2000,.box 101 0 [.V (.slice none 0 0),.I .u64 0]),(1002000,.box 101 0 [.S aM x.2.1,.I .u64 p]),(1003000,.box 101 0 [.S aM x.2.2.1,.I .u64 p]),(2004000,.box 101 0 [.S aM x.2.2.2.1,.I .u64 p]),(2005000,.box 101 0 [.S aM x.2.2.2.2,.I .u64 p])],3,[]⟩) (λx=>pS p x.1 x.2.1 x.2.2.1 x.2.2.2.1 x.2.2.2.2=pS p (f.length+1) m f [] [1]∧x.2.2.1.length<x.1∧AB p (ps f) (ps m) m.length x.2.1 x.2.2.1 x.2.2.2.1 x.2.2.2.2∧x.2.2.1.length≤n) (λx=>x.2.2.1.length) (f.length+1,m,f,[],[1]) ⟨ae,fT _,Sy hp hf hm br hc,by show f.length≤n;omega⟩ (wk ⟨sR ae,sR ae,sR ae,sR ae,sR ae,sR ae,sR ae,ah⟩ ⟨bE ae ae,bE ae ae,bE ae ae,bE ae ae,bE ae ae,bE ae ae,bE ae ae,ah⟩) ?_));rintro⟨k,last,next,u,v⟩ ⟨h1,h3,hE,n8⟩;simp only at h1 h3 hE n8;cases k with
 |zero=>omega
 |succ k=>
 rw[pS]at h1;refine aj (rr ae (ax ae (λh=>?_) (λh=>?_)))
 ·have h0:next≠[]:=by have h:(next.length:Int)>0:=a9 h;intro e;rw[e]at h;simp at h
  rw[aq h0]at h1;have hl:=cZ.2 h0;have fe:=hE.next hp dp h0;have akL:=hE.vne hp (hn▸kl p m) (hm.top hn) n8 h0;have e1:=hE.lt;have e2:=hE.lu;have e3:=hE.lv;have akM:last≠[]:=λe=>by rw[e]at e1;simp at e1
  obtain⟨d1,d2,d3,d4,d5,d6⟩:=lD hp dp hE.cl.1 hE.cn h0;have qy:=Ig (bM last next p).1 v p;refine aC (ai (aH (rb (rc ae ae (yH p hp dp last next af af hE.cl.1 hE.cn akM h0) (re ae (rr ae (cK ?_)))))));have hw:(AV.c (num .u64 ((p:Int)-1)).1)=cU ((p:Int)-1):=ay (λz=>AV.c (C.I .u64 z)) (wrap_u64 _ af af);have hpt:=Ia (bM last next p).1 v p af af cL af d2 hE.cv.1;have aR:u≠[]∨eD (bM last next p).1 v p≠[]:=by
   refine .inr λe=>?_
   have Az:=xh (bM last next p).1 v p;rw[e,ux]at Az;have hnv:=fe.cv;obtain⟨W,hW,eT⟩:=fe.ev;obtain⟨b,hb⟩:∃b,v.length=b+1:=⟨v.length-1,by have:=cZ.2 akL;omega⟩;have nF:¬Cg p (ps (bM last next p).1) 0:=λhz=>by
    have h8:Cg p (ps last) (ps (bM last next p).2):=by refine d1.trans ?_;have:=(hz.qR (ps next)).oW (ps (bM last next p).2);rwa[PS.zero_mul,PS.zero_add]at this
    have h9:=ay List.length (Sn hE.cl (d5 hE.cl) h8);omega
   obtain⟨dg,AD⟩:=(Cs (kl p (bM last next p).1)).resolve_left nF;have rY:=yG hp AD.2.2 (hb▸kl p v) AD.2.1 (hE.cv.top hb);rw[←Az.at (dg+b),PS.lZ,dk]at rY;exact absurd ae rY
  have Ct:=Sv u ((p:Int)-1) (eD (bM last next p).1 v p) p af af cL af hE.cu.1 (nK cL _ _).1 ⟨by omega,by omega⟩ aR;rw[←hw]at Ct;refine rc ae ae hpt (rc ae ae Ct (re ae ?_));refine a6 (a8 (k,next,(bM last next p).2,v,a7 (jv u (p-1) (eD (bM last next p).1 v p) p)) ⟨h1,by show(bM last next p).2.length<k;omega,fe,by show(bM last next p).2.length≤n;omega⟩ (by show(bM last next p).2.length<next.length;omega) (wk ⟨sR ae,sR ae,sR ae,sR ae,sR ae,sR ae,sR ae,ah⟩ ⟨bE ae ae,bE ae ae,bE ae ae,bE ae ae,bE ae ae,bE ae ae,bE ae ae,ah⟩))
 ·have h0:next=[]:=by have h:¬(next.length:Int)>0:=bC h;exact iu af
  rw[aw h0]at h1;rw[kV,←h1];rw[←h1]at y1 y2 y3 y4 z4;simp only at y1 y2 y3 y4 z4;obtain⟨m1,m2,m3,m4⟩:=ZR hp y2 (λe=>by rw[e]at y1;cases y1);rw[y1]at m1 m2 m3 m4;simp only[iw]at m1 m2 m3 m4;have hinv:=L5 (last.getD 0 0) p ⟨m1,m2⟩ m3 af af;refine bh (bt (bq (bp (ai (rb (rc ae ae hinv (hp:=aN) (re ae (rb ?_))))))));have kD:=Ay hp dp m1 m2 m3;generalize ((ia (last.getD 0 0).toNat ((p:Nat):Int).toNat:Nat):Int)=s at*;have Ag:s≠0:=λe=>by rw[e,et,dk]at kD;cases kD
  have dQ:=AA f s p cL af m4.1 m4.2;rw[Ij Ag]at dQ⊢;have qy:=Ig u [s] p;simp only[fv,mr]at qy;have qD:bX p [s]:=⟨xi m4.1 m4.2,.inr Ag⟩;refine rc ae ae dQ (rc ae ae (Ia u [s] p af be cL af y3.1 qD.1) (rc ae ae (yH p hp dp _ m af af (nK cL u [s]).1 hm (ZU hp y3 qD z4 be) ju) (re ae (rr ae (aF (aL ar ae (au.refl _)))))))
end Go.El
namespace Go.El
def Sz(p:Int):Setoid {A:PS//aY p A}:=⟨λA B=>Cg p A.1 B.1,⟨λA=>Cg.refl p A.1,Cg.symm,Cg.trans⟩⟩
def Fx(p:Int):Type:=Quotient (Sz p)
namespace Fx
variable{p:Int}
def mk(A:PS)(h:aY p A):Fx p:=Quotient.mk (Sz p) ⟨A,h⟩
def mk_eq{A B:PS}{h:aY p A}{k:aY p B}:mk A h=mk B k↔Cg p A B:=⟨λe=>Quotient.exact e,λe=>Quotient.sound (s:=Sz p) e⟩
def ex(x:Fx p):∃A,∃h:aY p A,x=mk A h:=by refine Quotient.inductionOn x (λA=>?_);exact⟨A.1,A.2,ae⟩
instance:Add (Fx p):=⟨λx y=>Quotient.liftOn₂ x y (λA B=>mk (A.1+B.1) (A.2.add B.2)) (λ_ _ _ _ h k=>mk_eq.2 (Cg.add h k))⟩
instance:Mul (Fx p):=⟨λx y=>Quotient.liftOn₂ x y (λA B=>mk (A.1*B.1) (A.2.mul B.2)) (λ_ _ _ _ h k=>mk_eq.2 (Cg.mul h k))⟩
instance:Neg (Fx p):=⟨λx=>Quotient.liftOn x (λA=>mk (-A.1) A.2.neg) (λ_ _ h=>mk_eq.2 (Cg.neg h))⟩
instance:_root_.Sub (Fx p):=⟨λx y=>x+ -y⟩
instance:OfNat (Fx p) 0:=⟨mk 0 (aY.zero p)⟩
instance:OfNat (Fx p) 1:=⟨mk 1 (aY.one p)⟩
def ZX{A B:PS}{h:aY p A}{k:aY p B}:mk A h+mk B k=mk (A+B) (h.add k):=rfl
def ZY{A B:PS}{h:aY p A}{k:aY p B}:mk A h*mk B k=mk (A*B) (h.mul k):=rfl
def mk_congr{A B:PS}(e:A=B)(h:aY p A)(k:aY p B):mk A h=mk B k:=mk_eq.2 (Cg.of_eq e)
def add_comm(x y:Fx p):x+y=y+x:=by obtain⟨A,h,rfl⟩:=ex x;obtain⟨B,k,rfl⟩:=ex y;exact mk_congr (PS.add_comm A B) _ _
def add_assoc(x y z:Fx p):x+y+z=x+(y+z):=by obtain⟨A,h,rfl⟩:=ex x;obtain⟨B,k,rfl⟩:=ex y;obtain⟨C,l,rfl⟩:=ex z;exact mk_congr (PS.add_assoc A B C) _ _
def mul_comm(x y:Fx p):x*y=y*x:=by obtain⟨A,h,rfl⟩:=ex x;obtain⟨B,k,rfl⟩:=ex y;exact mk_congr (PS.mul_comm A B) _ _
def mul_assoc(x y z:Fx p):x*y*z=x*(y*z):=by obtain⟨A,h,rfl⟩:=ex x;obtain⟨B,k,rfl⟩:=ex y;obtain⟨C,l,rfl⟩:=ex z;exact mk_congr (PS.mul_assoc A B C) _ _
def mul_add(x y z:Fx p):x*(y+z)=x*y+x*z:=by obtain⟨A,h,rfl⟩:=ex x;obtain⟨B,k,rfl⟩:=ex y;obtain⟨C,l,rfl⟩:=ex z;exact mk_congr (PS.mul_add A B C) _ _
def add_mul(x y z:Fx p):(x+y)*z=x*z+y*z:=by rw[mul_comm,mul_add,mul_comm z x,mul_comm z y]
def zero_add(x:Fx p):0+x=x:=by obtain⟨A,h,rfl⟩:=ex x;exact mk_congr (PS.zero_add A) ((aY.zero p).add h) h
def add_zero(x:Fx p):x+0=x:=by rw[add_comm,zero_add]
def one_mul(x:Fx p):1*x=x:=by obtain⟨A,h,rfl⟩:=ex x;exact mk_congr (PS.one_mul A) ((aY.one p).mul h) h
def mul_one(x:Fx p):x*1=x:=by rw[mul_comm,one_mul]
def zero_mul(x:Fx p):0*x=0:=by obtain⟨A,h,rfl⟩:=ex x;exact mk_congr (PS.zero_mul A) ((aY.zero p).mul h) (aY.zero p)
def mul_zero(x:Fx p):x*0=0:=by rw[mul_comm,zero_mul]
def add_neg(x:Fx p):x+ -x=0:=by obtain⟨A,h,rfl⟩:=ex x;exact mk_congr (PS.add_neg A) (h.add h.neg) (aY.zero p)
def neg_add(x:Fx p): -x+x=0:=by rw[add_comm,add_neg]
def sub_def(x y:Fx p):x-y=x+ -y:=rfl
instance:Std.Associative (α:=Fx p) (·+·):=⟨add_assoc⟩
instance:Std.Commutative (α:=Fx p) (·+·):=⟨add_comm⟩
instance:Std.Associative (α:=Fx p) (·*·):=⟨mul_assoc⟩
instance:Std.Commutative (α:=Fx p) (·*·):=⟨mul_comm⟩
def add_left_cancel{x y z:Fx p}(h:x+y=x+z):y=z:=by have:=ay (-x+·) h;simpa only[←add_assoc,neg_add,zero_add]using this
def l6(x y:Fx p):x-y+y=x:=by rw[sub_def,add_assoc,neg_add,add_zero]
def yK(x y:Fx p):x+y-y=x:=by rw[sub_def,add_assoc,add_neg,add_zero]
def Mq{x y z:Fx p}(h:x+y=z):x=z-y:=by rw[←h,yK]
def sub_eq{x y z:Fx p}(h:x=z+y):x-y=z:=by rw[h,yK]
def sub_self(x:Fx p):x-x=0:=add_neg x
def EZ{x y:Fx p}(h:x-y=0):x=y:=by rw[←l6 x y,h,zero_add]
def sub_mul(x y z:Fx p):(x-y)*z=x*z-y*z:=Mq (by rw[←add_mul,l6])
def mul_sub(x y z:Fx p):x*(y-z)=x*y-x*z:=by rw[mul_comm,sub_mul,mul_comm y,mul_comm z]
def neg_mul(x y:Fx p): -x*y= -(x*y):=add_left_cancel (x:=x*y) (by rw[←add_mul,add_neg,add_neg,zero_mul])
def mul_neg(x y:Fx p):x* -y= -(x*y):=by rw[mul_comm,neg_mul,mul_comm]
def neg_sub(x y:Fx p): -(x-y)=y-x:=add_left_cancel (x:=x-y) (by rw[add_neg,sub_def,sub_def];have:x+ -y+(y+ -x)=(x+ -x)+(-y+y):=kN;rw[this,add_neg,neg_add,add_zero])
def Z0(x y z:Fx p):(x-y)+(y-z)=x-z:=by rw[sub_def,sub_def,sub_def];have:x+ -y+(y+ -z)=x+ -z+(-y+y):=kN;rw[this,neg_add,add_zero]
def SA(x y z w:Fx p):(x+y)-(z+w)=(x-z)+(y-w):=sub_eq (by have:x-z+(y-w)+(z+w)=(x-z+z)+(y-w+w):=kN;rw[this,l6,l6])
instance:Dvd (Fx p):=⟨λa b=>∃w,b=w*a⟩
def dvd_refl(a:Fx p):a∣a:=⟨1,(one_mul a).symm⟩
def dvd_zero(a:Fx p):a∣0:=⟨0,(zero_mul a).symm⟩
def dvd_trans{a b c:Fx p}(h:a∣b)(k:b∣c):a∣c:=by obtain⟨w,rfl⟩:=h;obtain⟨v,rfl⟩:=k;exact⟨v*w,(mul_assoc v w a).symm⟩
def dvd_mul_left(a b:Fx p):a∣b*a:=⟨b,ae⟩
def dvd_mul_right(a b:Fx p):a∣a*b:=⟨b,mul_comm a b⟩
def fl{a b:Fx p}(h:a∣b)(c:Fx p):a∣c*b:=dvd_trans h (dvd_mul_left b c)
def qU{a b:Fx p}(h:a∣b)(c:Fx p):a∣b*c:=dvd_trans h (dvd_mul_right b c)
def dvd_add{a b c:Fx p}(h:a∣b)(k:a∣c):a∣b+c:=by obtain⟨w,rfl⟩:=h;obtain⟨v,rfl⟩:=k;exact⟨w+v,(add_mul w v a).symm⟩
def dvd_neg{a b:Fx p}(h:a∣b):a∣-b:=by obtain⟨w,rfl⟩:=h;exact⟨-w,(neg_mul w a).symm⟩
def dvd_sub{a b c:Fx p}(h:a∣b)(k:a∣c):a∣b-c:=dvd_add h (dvd_neg k)
def xk{a b c:Fx p}(h:a∣b+c)(k:a∣b):a∣c:=by have:=dvd_sub h k;rwa[add_comm b c,yK]at this
def E3{a b c:Fx p}(h:a∣b-c)(k:a∣c):a∣b:=by have:=dvd_add h k;rwa[l6]at this
def nL{a b c:Fx p}(h:a∣b-c):a∣c-b:=by rw[←neg_sub];exact dvd_neg h
def rZ{a b c d:Fx p}(h:a∣b-c)(k:a∣c-d):a∣b-d:=by rw[←Z0 b c d];exact dvd_add h k
def SB{a b c d e:Fx p}(h:a∣b-c)(k:a∣d-e):a∣(b+d)-(c+e):=by rw[SA];exact dvd_add h k
def E4{a b c d e:Fx p}(h:a∣b-c)(k:a∣d-e):a∣b*d-c*e:=by
 have:b*d-c*e=(b-c)*d+c*(d-e):=by rw[sub_mul,mul_sub,Z0]
 rw[this];exact dvd_add (qU h d) (fl k c)
def xl(a b:Fx p):a∣b-b:=by rw[sub_self];exact dvd_zero a
def pk(a:Fx p):Nat→Fx p
 |0=>1
 |n+1=>pk a n*a
def Cu(a:Fx p):pk a 1=a:=one_mul a
def tn(a:Fx p)(m:Nat):∀n,pk a (m+n)=pk a m*pk a n
 |0=>(mul_one _).symm
 |n+1=>by rw[←tO,pk,pk,tn a m n,mul_assoc]
def Cv(a:Fx p)(m:Nat):∀n,pk a (m*n)=pk (pk a m) n
 |0=>rfl
 |n+1=>by rw[GK,tn,pk,Cv a m n]
def xm(a b:Fx p):∀n,pk (a*b) n=pk a n*pk b n
 |0=>(one_mul 1).symm
 |n+1=>by rw[pk,pk,pk,xm a b n];ac_rfl
def yL:∀n,pk (1:Fx p) n=1
 |0=>rfl
 |n+1=>by rw[pk,yL n,one_mul]
def SC{n:Nat}(h:0<n):pk (0:Fx p) n=0:=by obtain⟨m,rfl⟩:∃m,n=m+1:=⟨n-1,by omega⟩;rw[pk,mul_zero]
def Cw{a b c:Fx p}(h:a∣b-c):∀n,a∣pk b n-pk c n
 |0=>xl a 1
 |n+1=>E4 (Cw h n) h
def Mr{A:PS}(h:aY p A):∀n(k:aY p (pw A n)),mk (pw A n) k=pk (mk A h) n
 |0,_=>rfl
 |n+1,k=>by
  have h1:aY p (pw A n):=by
   clear k;induction n with
   |zero=>exact aY.one p
   |succ n ih=>exact ih.mul h
  rw[pk,←Mr h n h1,ZY];rfl
def Ms{A:PS}(h:aY p A):∀n,aY p (pw A n)
 |0=>aY.one p
 |n+1=>(Ms h n).mul h
def K(c:Int):Fx p:=mk (PS.K c) (aY.K p c)
def yM(k:Nat):aY p (PS.X k):=⟨_,akj p k⟩
def X:Fx p:=mk (PS.X 1) (yM 1)
def fx(a:List Int):Fx p:=mk (ps a) (aY.ps p a)
def qQ(a b:Int):(K (a+b):Fx p)=K a+K b:=mk_congr (PS.qQ a b) _ _
def gw(a b:Int):(K (a*b):Fx p)=K a*K b:=mk_congr (PS.tk a b) _ _
def mK:(K 0:Fx p)=0:=mk_congr PS.mK _ _
def l7:(K 1:Fx p)=1:=rfl
def AE(a:Int):(K (-a):Fx p)= -K a:=add_left_cancel (x:=K a) (by rw[←qQ,Int.add_right_neg,mK,add_neg])
def E5(a b:Int):(K (a-b):Fx p)=K a-K b:=by rw[Ps,qQ,AE,sub_def]
def uy{a b:Int}(h:a%p=b%p):(K a:Fx p)=K b:=mk_eq.2 (Cg.K h)
def Mt{a b:Int}(h:(K a:Fx p)=K b):a%p=b%p:=(mk_eq.1 h).at 0
def K_p:(K p:Fx p)=0:=mk_eq.2 (Cg.Km p)
def Mu(a:Int):∀n,pk (K a:Fx p) n=K (a^n)
 |0=>by rw[wJ,l7];rfl
 |n+1=>by rw[pk,Mu a n,fU,gw]
def og:(fx []:Fx p)=0:=mk_congr ux _ _
def Mv:(fx [1]:Fx p)=1:=mk_congr Cr _ _
def SD(c:Int):(fx [c]:Fx p)=K c:=mk_congr (PS.ext λi=>by
 cases i with
 |zero=>rfl
 |succ i=>rfl) _ _
def akP(c:Int)(a:List Int):ps (c::a)=PS.K c+PS.X 1*ps a:=PS.ext λi=>by
 rw[PS.fP,PS.qP];cases i with
 |zero=>rw[aq af];show c=PS.K c 0+0;rw[PS.K,aw ae];omega
 |succ i=>rw[aw af];show a.getD i 0=PS.K c (i+1)+a.getD i 0;rw[PS.K,aq af];omega
def SE(c:Int)(a:List Int):(fx (c::a):Fx p)=K c+X*fx a:=mk_congr (akP c a) _ _
def akQ{a b:List Int}(h:Cg p (ps a) (ps b)):(fx a:Fx p)=fx b:=mk_eq.2 h
def Ip(a b:List Int):(fx (eD a b p):Fx p)=fx a*fx b:=mk_eq.2 (xh a b p)
def xn(a:List Int):(fx (a7 a):Fx p)=fx a:=mk_congr (Cq a) _ _
def SF(a:List Int):(fx (md p a):Fx p)=fx a:=mk_eq.2 (Mi p a)
def xo{a b:List Int}(ha:bX p a)(hb:bX p b)(h:(fx a:Fx p)=fx b):a=b:=Sn ha hb (mk_eq.1 h)
def kI(hp:0<p)(A:Fx p):∃a,bX p a∧fx a=A:=by
 obtain⟨A,⟨n,hn⟩,rfl⟩:=ex A;have hg:∀i,((List.range n).map λi=>A i%p).getD i 0=if i<n then A i%p else 0:=λi=>by
  rw[aU,kc];by_cases e:i<n
  ·rw[aw e,oI e];rfl
  ·rw[aq e,nn cT];rfl
 refine⟨a7 ((List.range n).map λi=>A i%p),nJ hp (λi=>?_),?_⟩
 ·rw[hg];split
  ·exact⟨gZ _ af,iv _ hp⟩
  ·exact⟨jB _,hp⟩
 ·rw[xn];refine mk_eq.2 (Cg.of λi=>?_);rw[dV,hg];split
  ·rw[k8]
  ·rw[hn i af,dk]
open Classical in
noncomputable def sz(A:Fx p):Nat:=if h:∃a,bX p a∧fx a=A then(Classical.choose h).length else 0
def dj{a:List Int}(ha:bX p a):sz (fx a:Fx p)=a.length:=by have h:∃b,bX p b∧(fx b:Fx p)=fx a:=⟨a,ha,ae⟩;unfold sz;rw[dif_pos h];have h2:=xQ h;rw[xo h2.1 ha h2.2]
def yN{n:Nat}(hp:0<p){A:PS}(h:aY p A)(hn:Dl p n A):sz (mk A h)≤n:=by obtain⟨a,ha,e⟩:=kI hp (mk A h);rw[←e,dj ha];exact ha.len (hn.cg (mk_eq.1 e).symm)
def akR(hp:0<p)(a:List Int):sz (fx a:Fx p)≤a.length:=yN hp _ (kl p a)
def kJ(hp:0<p):sz (0:Fx p)=0:=by rw[←og,dj (vI hp)];rfl
def E6(hp:0<p)(c:Int):sz (K c:Fx p)≤1:=yN hp _ (Sd p c)
def SH(hp:0<p){A:Fx p}(h:sz A=0):A=0:=by obtain⟨a,ha,rfl⟩:=kI hp A;rw[dj ha]at h;rw[iu h,og]
def eP(hp:0<p){A:Fx p}(h:A≠0):0<sz A:=by
 rcases wE (sz A)with e|e
 ·exact absurd (SH hp e) h
 ·exact e
def SI(hp:0<p)(A B:Fx p):sz (A+B)≤max (sz A) (sz B):=by obtain⟨a,ha,rfl⟩:=kI hp A;obtain⟨b,hb,rfl⟩:=kI hp B;rw[dj ha,dj hb];exact yN hp _ (((kl p a).le af).add ((kl p b).le af))
def SJ(hp:0<p)(A:Fx p):sz (-A)≤sz A:=by obtain⟨a,ha,rfl⟩:=kI hp A;rw[dj ha];exact yN hp _ (kl p a).neg
def Iq(hp:0<p)(A B:Fx p):sz (A-B)≤max (sz A) (sz B):=by have h1:=SI hp A (-B);have h2:=SJ hp B;rw[sub_def];omega
end Fx
structure bI(p:Nat):Prop where
 hp:dN p
 le:p≤2147483648
def bI.pos{p:Nat}(H:bI p):(0:Int)<(p:Int):=xN
def bI.one{p:Nat}(H:bI p):(1:Int)%(p:Int)=1:=by have:=H.hp.1;exact iZ ak af
namespace Fx
variable{p:Nat}
def oh(H:bI p):(1:Fx p)≠0:=λe=>by rw[←l7,←mK]at e;have:=Mt e;rw[H.one,dk]at this;cases this
def pT(H:bI p){c:Int}(h:c%(p:Int)≠0):∃d,(K d*K c:Fx p)=1:=by have h0:=gZ c (show(p:Int)≠0 by have:=H.pos;omega);have h1:=iv c H.pos;have e:(K c:Fx p)=K (c%(p:Int)):=uy (by rw[k8]);refine⟨((ia (c%(p:Int)).toNat ((p:Nat):Int).toNat:Nat):Int),?_⟩;rw[e,←gw,←l7];refine uy ?_;rw[fh,Ay H.hp H.le h0 h1 h,H.one]
def tq(H:bI p){c:Int}(h:c%(p:Int)≠0):(K c:Fx p)≠0:=λe=>by obtain⟨d,hd⟩:=pT H h;rw[e,mul_zero]at hd;exact oh H hd.symm
def eH(H:bI p){A B:Fx p}(hA:A≠0)(hB:B≠0):sz (A*B)+1=sz A+sz B:=by
 obtain⟨a,ha,rfl⟩:=kI H.pos A;obtain⟨b,hb,rfl⟩:=kI H.pos B;have pa:=eP H.pos hA;have pb:=eP H.pos hB;rw[dj ha]at pa⊢;rw[dj hb]at pb⊢;obtain⟨n,hn⟩:∃n,a.length=n+1:=⟨a.length-1,by omega⟩;obtain⟨m,hm⟩:∃m,b.length=m+1:=⟨b.length-1,by omega⟩;have da:=kl (p:Int) a;have db:=kl (p:Int) b;rw[hn]at da⊢;rw[hm]at db⊢;have h1:=yN H.pos ((aY.ps (p:Int) a).mul (aY.ps p b)) (da.mul db);rw[←Ip,dj (nK H.pos a b)];have h2:=yG H.hp da db (ha.top hn) (hb.top hm);have h3:=(xh a b (p:Int)).at (n+m);have h4:(eD a b (p:Int)).length≤n+(m+1):=by have e:sz (fx (eD a b p):Fx p)=(eD a b p).length:=dj (nK H.pos a b);rw[Ip]at e;rw[←e];exact h1
 by_cases e:(eD a b (p:Int)).length≤n+m
 ·exfalso;rw[←h3,dV,dH _ e,dk]at h2;exact h2 ae
 ·omega
def oX(H:bI p){A B:Fx p}(hA:A≠0)(hB:B≠0):A*B≠0:=λe=>by have h:=eH H hA hB;rw[e,kJ H.pos]at h;have pa:=eP H.pos hA;have pb:=eP H.pos hB;omega
def yO(H:bI p){A B C:Fx p}(hA:A≠0)(h:B*A=C*A):B=C:=by
 refine EZ ?_;refine gE λhn=>?_
 exact oX H hn hA (by rw[sub_mul,h,sub_self])
def oY(H:bI p):sz (1:Fx p)=1:=by have h1:=E6 H.pos 1 (p:=(p:Int));have h2:=eP H.pos (oh H);rw[l7]at h1;omega
def E7(H:bI p){A:Fx p}(h:sz A=1):∃c:Int,c%(p:Int)≠0∧A=K c:=by
 obtain⟨a,ha,rfl⟩:=kI H.pos A;rw[dj ha]at h;match a,h,ha with
 |[c],_,ha=>exact⟨c,ha.top (n:=0) ae,SD c⟩
def xp(H:bI p){A:Fx p}(h:sz A=1):∃B:Fx p,B*A=1:=by obtain⟨c,hc,rfl⟩:=E7 H h;obtain⟨d,hd⟩:=pT H hc;exact⟨_,hd⟩
def Cx(H:bI p){A B:Fx p}(h:B*A=1):sz A=1:=by
 have hA:A≠0:=λe=>oh H (by rw[←h,e,mul_zero])
 have hB:B≠0:=λe=>oh H (by rw[←h,e,zero_mul])
 have h1:=eH H hB hA;rw[h,oY H]at h1;have pa:=eP H.pos hA;have pb:=eP H.pos hB;omega
def dvd_one(H:bI p){A:Fx p}(h:A∣1):sz A=1:=by obtain⟨w,hw⟩:=h;exact Cx H hw.symm
def j3(H:bI p){A B:Fx p}(h:A∣B)(hB:B≠0):sz A≤sz B:=by
 obtain⟨w,rfl⟩:=h;have hw:w≠0:=λe=>hB Ki
 have hA:A≠0:=λe=>hB (by rw[e,mul_zero])
 have h1:=eH H hw hA;have pw:=eP H.pos hw;omega
def vK(H:bI p){A B:Fx p}(h:A∣B)(br:sz B<sz A):B=0:=
 gE λhn=>by have:=j3 H h hn;omega
def SK(H:bI p)(A:Fx p){B:Fx p}(hB:B≠0):∃Q R,A=Q*B+R∧sz R<sz B:=by
 obtain⟨a,ha,rfl⟩:=kI H.pos A;obtain⟨b,hb,rfl⟩:=kI H.pos B;have eB:b≠[]:=λe=>hB (by rw[e,og])
 obtain⟨d1,d2,d3,d4,d5,d6⟩:=lD H.hp H.le ha.1 hb eB;refine⟨fx (bM a b p).1,fx (bM a b p).2,mk_eq.2 d1,?_⟩;rw[dj hb,dj (d5 ha)];have:=cZ.2 eB;omega
def AF(H:bI p):∀(n:Nat)(A B:Fx p),sz B<n→∃D U V,D∣A∧D∣B∧D=U*A+V*B
 |0,_,_,h=>by omega
 |n+1,A,B,h=>by
  by_cases e:B=0
  ·subst e;exact⟨A,1,0,dvd_refl A,dvd_zero A,by rw[one_mul,mul_zero,add_zero]⟩
  ·obtain⟨Q,R,h1,h2⟩:=SK H A e;obtain⟨D,U,V,h3,h4,h5⟩:=AF H n B R af;refine⟨D,V,U-V*Q,?_,h3,?_⟩
   ·rw[h1];exact dvd_add (fl h3 Q) h4
   ·rw[h5,h1,mul_add,sub_mul];have:V*(Q*B)+V*R+(U*B-V*Q*B)=(U*B-V*Q*B+V*Q*B)+V*R:=kN;rw[this,l6]
def Co(A B:Fx p):Prop:=∃U V,U*A+V*B=1
def Co.symm{A B:Fx p}(h:Co A B):Co B A:=by obtain⟨U,V,h⟩:=h;exact⟨V,U,by rw[add_comm];exact h⟩
def Z5{a b:List Int}:Co (fx a:Fx p) (fx b)↔gy p (ps a) (ps b):=by
 constructor
 ·rintro⟨U,V,h⟩;obtain⟨U,hU,rfl⟩:=ex U;obtain⟨V,hV,rfl⟩:=ex V;exact⟨U,V,hU,hV,mk_eq.1 (h:mk _ ((hU.mul (aY.ps p a)).add (hV.mul (aY.ps p b)))=mk 1 (aY.one p))⟩
 ·rintro⟨U,V,hU,hV,h⟩;exact⟨mk U hU,mk V hV,mk_eq.2 h⟩
def Co.dvd{A B C:Fx p}(h:Co A B)(k:A∣B*C):A∣C:=by
 obtain⟨U,V,h⟩:=h;have:C=C*U*A+V*(B*C):=by have e1:C*(U*A)+C*(V*B)=C*U*A+V*(B*C):=kN;rw[←e1,←mul_add,h,mul_one]
 rw[this];exact dvd_add (dvd_mul_left A _) (fl k V)
def Co.Mw{A B C:Fx p}(h:Co A B)(ka:A∣C)(kb:B∣C):A*B∣C:=by obtain⟨w,rfl⟩:=kb;rw[mul_comm w B]at ka;obtain⟨v,rfl⟩:=h.dvd ka;exact⟨v,by ac_rfl⟩
def Co.mul{A B C:Fx p}(h:Co A B)(k:Co A C):Co A (B*C):=by
 obtain⟨U,V,h⟩:=h;obtain⟨U',V',k⟩:=k;refine⟨U*U'*A+U*(V'*C)+V*B*U',V*V',?_⟩;have:(U*A+V*B)*(U'*A+V'*C)=1:=by rw[h,k,one_mul]
 rw[←this];simp only[mul_add,add_mul];ac_rfl
def Co.unit{A B:Fx p}(H:bI p)(h:Co A B)(k:A∣B):sz A=1:=by obtain⟨U,V,h⟩:=h;exact dvd_one H (h▸dvd_add (dvd_mul_left A U) (fl k V))
def cj(Q:Fx p):Prop:=2≤sz Q∧∀A B,Q=A*B→sz A=1∨sz B=1
def cj.ne{Q:Fx p}(H:bI p)(h:cj Q):Q≠0:=λe=>by have:=h.1;rw[e,kJ H.pos]at this;omega
def cj.or{Q:Fx p}(H:bI p)(h:cj Q)(A:Fx p):Q∣A∨Co Q A:=by
 obtain⟨D,U,V,h1,h2,h3⟩:=AF H _ Q A (fT _);obtain⟨w,hw⟩:=h1;rcases h.2 _ _ hw with e|e
 ·obtain⟨B,hB⟩:=xp H e;left;refine dvd_trans ⟨B,?_⟩ h2;rw[hw,←mul_assoc,hB,one_mul]
 ·obtain⟨B,hB⟩:=xp H e;right;refine⟨B*U,B*V,?_⟩;rw[←hB,h3,mul_add,mul_assoc,mul_assoc]
def cj.xq{Q:Fx p}(H:bI p)(h:cj Q):¬Q∣1:=λe=>by have:=dvd_one H e;have:=h.1;omega
def cj.r6{Q:Fx p}(H:bI p)(h:cj Q){A B:Fx p}(k:Q∣A*B):Q∣A∨Q∣B:=by
 rcases h.or H A with e|e
 ·exact .inl e
 ·exact .inr (e.dvd k)
def cj.Z6{Q:Fx p}(H:bI p)(h:cj Q){c:Int}(k:Q∣K c):c%(p:Int)=0:=
 gE λhn=>by obtain⟨d,hd⟩:=pT H hn;exact h.xq H (hd▸fl k (K d))
def AG(H:bI p):∀(n:Nat)(A:Fx p),sz A<n→2≤sz A→∃Q,cj Q∧Q∣A
 |0,_,h,_=>by omega
 |n+1,A,h,h2=>by
  by_cases hi:cj A
  ·exact⟨A,hi,dvd_refl A⟩
  ·have:∃B C,A=B*C∧¬(sz B=1∨sz C=1):=gE λhn=>hi ⟨h2,λB C e=>gE λhc=>hn ⟨B,C,e,hc⟩⟩
   obtain⟨B,C,e,hc⟩:=this;have hA:A≠0:=λe=>by rw[e,kJ H.pos]at h2;omega
   have hB:B≠0:=λe2=>hA (by rw[e,e2,zero_mul])
   have hC:C≠0:=λe2=>hA (by rw[e,e2,mul_zero])
   have h3:=eH H hB hC;rw[←e]at h3;have h4:=eP H.pos hB;have h5:=eP H.pos hC;obtain⟨Q,hQ,hd⟩:=AG H n B af af;exact⟨Q,hQ,by rw[e];exact qU hd C⟩
def AH(H:bI p){A B:Fx p}(hA:A≠0)(h:∀Q,cj Q→Q∣A→Q∣B→False):Co A B:=by
 obtain⟨D,U,V,h1,h2,h3⟩:=AF H _ A B (fT _);have hD:D≠0:=λe=>by obtain⟨w,hw⟩:=h1;rw[e,mul_zero]at hw;exact hA hw
 have h4:=eP H.pos hD;by_cases e:sz D=1
 ·obtain⟨C,hC⟩:=xp H e;refine⟨C*U,C*V,?_⟩;rw[←hC,h3,mul_add,mul_assoc,mul_assoc]
 ·obtain⟨Q,hQ,hd⟩:=AG H _ D (fT _) af;exact(h Q hQ (dvd_trans hd h1) (dvd_trans hd h2)).elim
def Ic(H:bI p)(A B:Fx p):pk (A+B) p=pk A p+pk B p:=by obtain⟨A,hA,rfl⟩:=ex A;obtain⟨B,hB,rfl⟩:=ex B;rw[ZX,←Mr (hA.add hB) _ (Ms (hA.add hB) _),←Mr hA _ (Ms hA _),←Mr hB _ (Ms hB _),ZX];exact mk_eq.2 (H.hp.Ic A B)
def Cn(H:bI p)(c:Int):pk (K c:Fx p) p=K c:=by have h0:=gZ c (show(p:Int)≠0 by have:=H.pos;omega);obtain⟨a,ha⟩:=Dw h0;have e:(K c:Fx p)=K (a:Int):=uy (by rw[←ha,k8]);rw[e,Mu];exact uy (H.hp.Cn a)
def ev:List (Fx p)→Fx p→Fx p
 |[],_=>1
 |c::cs,y=>c+y*ev cs y
def Z7(y0:Fx p):∀(cs:List (Fx p))(c:Fx p),∃ds:List (Fx p),ds.length=cs.length∧∀y,ev (c::cs) y=ev (c::cs) y0+(y-y0)*ev ds y
 |[],c=>⟨[],ae,λy=>by show c+y*1=c+y0*1+(y-y0)*1;rw[mul_one,mul_one,mul_one,add_assoc,add_comm y0,l6]⟩
 |c'::cs,c=>by obtain⟨ds,h1,h2⟩:=Z7 y0 cs c';refine⟨ev (c'::cs) y0::ds,by simp[h1],λy=>?_⟩;show c+y*ev (c'::cs) y=c+y0*ev (c'::cs) y0+(y-y0)*(ev (c'::cs) y0+y*ev ds y);rw[h2 y];generalize ev (c'::cs) y0=w;generalize ev ds y=v;rw[mul_add,mul_add,add_assoc c,←add_assoc (y0*w),←add_mul y0,add_comm y0,l6];congr 2;ac_rfl
def roots(H:bI p){Q:Fx p}(hQ:cj Q):∀(cs:List (Fx p))(ys:List (Fx p)),cs.length<ys.length→(∀y∈ys,Q∣ev cs y)→ys.Pairwise (λa b=>¬Q∣a-b)→False
 |_,[],h,_,_=>by simp at h
 |[],y::_,_,h,_=>hQ.xq H (h y be)
 |c::cs,y0::ys,hl,h,hp=>by
  obtain⟨ds,h1,h2⟩:=Z7 y0 cs c;obtain⟨jo,iN⟩:=jW.1 hp;have e0:=h y0 be;have key:ds.length=cs.length:=h1;have hlen:ds.length<ys.length:=by simp only[fv]at hl;omega
  refine roots H hQ ds ys hlen (λy hy=>?_) iN;have e1:=h y oG;rw[h2 y]at e1;rcases hQ.r6 H (xk e1 e0)with e|e
  ·exact absurd (nL e) (jo y hy)
  ·exact e
termination_by cs=>cs.length
decreasing_by simp only[fv];omega
def Z8(y:Fx p):∀m,ev (List.replicate m 0) y=pk y m
 |0=>rfl
 |m+1=>by rw[wC,ev,Z8 y m,zero_add,pk,mul_comm]
def akS(m:Nat)(y:Fx p):ev (0:: -1::List.replicate m 0) y=pk y (m+2)-y:=by rw[ev,ev,Z8,zero_add,mul_add,mul_neg,mul_one,pk,pk,sub_def,add_comm];congr 1;ac_rfl
def Z9(H:bI p){Q V:Fx p}(hQ:cj Q)(h:Q∣pk V p-V):∃a:Nat,a<p∧Q∣V-K (a:Int):=by
 refine gE λhn=>?_
 have h2:=H.hp.1;obtain⟨m,rfl⟩:∃m,p=m+2:=⟨p-2,by omega⟩;refine roots H hQ (0:: -1::List.replicate m 0) (V::(List.range (m+2)).map λ(a:Nat)=>K (a:Int)) be (λy hy=>?_) ?_
 ·rw[akS];rcases dC.1 hy with rfl|hy
  ·exact h
  ·obtain⟨a,_,rfl⟩:=nW.1 hy;rw[Cn H,sub_self];exact dvd_zero Q
 ·refine jW.2 ⟨λy hy=>?_,?_⟩
  ·obtain⟨a,ha,rfl⟩:=nW.1 hy;exact λhd=>hn ⟨a,k7.1 ha,hd⟩
  ·refine KC.2 (WB ?_ WD);intro a b ha hb kQ hd;rw[←E5]at hd;have h3:=hQ.Z6 H hd;have:=k7.1 ha;have:=k7.1 hb;have h4:((m+2:Nat):Int)∣(a:Int)-b:=Dy h3;obtain⟨k,hk⟩:=h4;rcases Int.lt_trichotomy k 0 with e|e|e
   ·have:((m+2:Nat):Int)*k≤((m+2:Nat):Int)*(-1):=jx af af;omega
   ·subst e;omega
   ·have:((m+2:Nat):Int)*1≤((m+2:Nat):Int)*k:=jx af af;omega
end Fx
namespace Fx
variable{p:Nat}
def lE(F:Fx p):Prop:=∀Q,cj Q→¬Q*Q∣F
def lE.of_dvd{F G:Fx p}(h:lE F)(k:G∣F):lE G:=λQ hQ hd=>h Q hQ (dvd_trans hd k)
def xr{A B C D:Fx p}(h:A∣B)(k:C∣D):A*C∣B*D:=by obtain⟨w,rfl⟩:=h;obtain⟨v,rfl⟩:=k;exact⟨w*v,by ac_rfl⟩
def ts(H:bI p){c:Int}(h:c%(p:Int)≠0):sz (K c:Fx p)=1:=by obtain⟨d,hd⟩:=pT H h;exact Cx H hd
def Z'(H:bI p){A:Fx p}(h2:2≤sz A){c:Int}(h:A∣K c):c%(p:Int)=0:=
 gE λhn=>by have h1:=j3 H h (tq H hn);rw[ts H hn]at h1;omega
def AI(p:Nat)(V:Fx p)(s:Int):Fx p:=if p=2 then V+K s else pk (V+K s) ((p-1)/2)-1
def sep(H:bI p){F V:Fx p}(h2:2≤sz F)(hs:lE F)(hV:F∣pk V p-V)(hn:∀c,¬F∣V-K c):
  ∃s:Nat,s<p∧∃Q1 Q2,cj Q1∧cj Q2∧Q1∣F∧Q2∣F∧Q1∣AI p V s∧¬Q2∣AI p V s:=by
 have iN:=H.hp.1
 have hF:F≠0:=λe=>by rw[e,kJ H.pos]at h2;omega
 obtain⟨Q1,i1,d1⟩:=AG H _ F (fT _) h2
 obtain⟨a,ha,da⟩:=Z9 H i1 (dvd_trans d1 hV)
 obtain⟨Q2,i2,d2,n2⟩:∃Q2,cj Q2∧Q2∣F∧¬Q2∣V-K (a:Int):=by
  obtain⟨D,U,U',g1,g2,g3⟩:=AF H _ F (V-K (a:Int)) (fT _);obtain⟨W,hW⟩:=g1;have SL:W≠0:=λe=>hF (by rw[hW,e,zero_mul])
  have yJ:sz W≠1:=λe=>hn a (by obtain⟨C,hC⟩:=xp H e;refine dvd_trans ⟨C,?_⟩ g2;rw[hW,←mul_assoc,hC,one_mul])
  have Sw:=eP H.pos SL;obtain⟨Q2,i2,d2⟩:=AG H _ W (fT _) af;have d3:Q2∣F:=by rw[hW];exact qU d2 D
  refine⟨Q2,i2,d3,λhd=>hs Q2 i2 ?_⟩;have d4:Q2∣D:=by rw[g3];exact dvd_add (fl d3 U) (fl hd U')
  rw[hW];exact xr d2 d4
 by_cases e2:p=2
 ·have e:(K (((p-a)%p:Nat):Int):Fx p)= -K (a:Int):=by rw[←AE];refine uy ?_;rw[GH,k8,Int.ofNat_sub af,Ps,Int.add_emod_left]
  refine⟨(p-a)%p,iy _ af,Q1,Q2,i1,i2,d1,d2,?_,?_⟩
  ·rw[AI,aw e2,e];exact da
  ·rw[AI,aw e2,e];exact n2
 ·obtain⟨b,hb,db⟩:=Z9 H i2 (dvd_trans d2 hV);let m:=(p-1)/2;have hm:0<m:=by show 0<(p-1)/2;omega
  have key:∀{Q:Fx p}{c:Nat}(s:Int),cj Q→Q∣V-K (c:Int)→(Q∣AI p V s↔pk (K ((c:Int)+s):Fx p) m=1):=by
   intro Q c s hQ hc;have h1:Q∣(V+K s)-K ((c:Int)+s):=by rw[qQ];exact SB hc (xl Q _)
   have h3:=Cw h1 m;rw[AI,aq e2];constructor
   ·intro h;have h4:=rZ (nL h3) h;rw[Mu,←l7,←E5]at h4;have h5:=hQ.Z6 H h4;rw[Mu,←l7];exact uy (Bb.2 h5)
   ·intro h;rw[h]at h3;exact h3
  refine gE λdY=>?_
  have same:∀s:Nat,s<p→(pk (K ((a:Int)+s):Fx p) m=1↔pk (K ((b:Int)+s):Fx p) m=1):=by
   intro s oi;constructor
   ·intro h;refine gE λdu=>dY ⟨s,oi,Q1,Q2,i1,i2,d1,d2,(key s i1 da).2 h,λh'=>du ((key s i2 db).1 h')⟩
   ·intro h;refine gE λsM=>dY ⟨s,oi,Q2,Q1,i2,i1,d2,d1,(key s i2 db).2 h,λh'=>sM ((key s i1 da).1 h')⟩
  have shift:∀u:Int,pk (K u:Fx p) m=1→pk (K (u+((b:Int)-a)):Fx p) m=1:=by
   intro u hu;have h0:=gZ (u-a) (show(p:Int)≠0 by omega);have h1:=iv (u-a) (show(0:Int)<(p:Int)by omega);obtain⟨s,zO⟩:=Dw h0;have e1:(K u:Fx p)=K ((a:Int)+s):=by refine uy ?_;rw[←zO,Int.add_emod_emod];congr 1;omega
   have e3:(K (u+((b:Int)-a)):Fx p)=K ((b:Int)+s):=by refine uy ?_;rw[←zO,Int.add_emod_emod];congr 1;omega
   rw[e3];exact(same s af).1 (by rw[←e1];exact hu)
  have all:∀k:Nat,pk (K (1+(k:Int)*((b:Int)-a)):Fx p) m=1:=by
   intro k;induction k with
   |zero=>rw[Int.natCast_zero,kO,nq,l7,yL]
   |succ k ih=>
    have:=shift _ ih
    rwa[Int.add_assoc,show(k:Int)*((b:Int)-a)+((b:Int)-a)=((k+1:Nat):Int)*((b:Int)-a)by rw[xV,lK];simp]at this
  have hd:((b:Int)-a)%(p:Int)≠0:=λe=>n2 (by have e3:(K (b:Int):Fx p)=K (a:Int):=uy (Bb.2 e);rw[←e3];exact db)
  obtain⟨e,he⟩:=pT H hd;have h0:=gZ (-e) (show(p:Int)≠0 by omega);obtain⟨k,hk⟩:=Dw h0;have h3:=all k;have h4:(K (1+(k:Int)*((b:Int)-a)):Fx p)=0:=by
   have e5:(K (k:Int):Fx p)= -K e:=by rw[←AE];exact uy (by rw[←hk,k8])
   rw[qQ,gw,e5,neg_mul,he,l7,add_neg]
  rw[h4,SC hm]at h3;exact oh H h3.symm
def akT(H:bI p){F G:Fx p}(hF:F≠0)(hs:lE F)(hG:G∣F)(h2:2≤sz G)(hw:∀w,F∣pk w p-w→∃c,G∣w-K c):cj G:=by
 have iN:=H.hp.1;refine⟨h2,λA B e=>gE λhc=>?_⟩;have hG0:G≠0:=λe=>by rw[e,kJ H.pos]at h2;omega
 have Ir:A≠0:=λe1=>hG0 (by rw[e,e1,zero_mul])
 have hB0:B≠0:=λe1=>hG0 (by rw[e,e1,mul_zero])
 have pA:=eP H.pos Ir;have pB:=eP H.pos hB0;have Cy:2≤sz A:=by
  by_cases h:sz A=1
  ·exact absurd (.inl h) hc
  ·omega
 have hB2:2≤sz B:=by
  by_cases h:sz B=1
  ·exact absurd (.inr h) hc
  ·omega
 obtain⟨R,hR⟩:=hG;have eF:F=A*(B*R):=by rw[hR,e];ac_rfl
 have oZ:Co A (B*R):=AH H Ir λQ hQ q1 q2=>hs Q hQ (by rw[eF];exact xr q1 q2)
 obtain⟨U,V,Mx⟩:=oZ;have w0:A∣U*A:=dvd_mul_left A U;have w1:B*R∣U*A-1:=by refine nL ?_;rw[←Mx,add_comm,yK];exact dvd_mul_left _ V
 have hwk:F∣pk (U*A) p-U*A:=by
  rw[eF];refine Co.Mw ⟨U,V,Mx⟩ ?_ ?_
  ·refine dvd_sub ?_ w0;obtain⟨q,rfl⟩:∃q,p=q+1:=⟨p-1,by omega⟩;exact fl w0 _
  ·have:=Cw w1 p;rw[yL]at this;exact rZ this (nL w1)
 obtain⟨c,hcG⟩:=hw _ hwk;have dA:A∣K c:=by have h1:A∣U*A-K c:=dvd_trans (by rw[e];exact dvd_mul_right A B) hcG;exact E3 (nL h1) w0
 have dB:B∣K (c-1):=by have h1:B∣U*A-K c:=dvd_trans (by rw[e];exact dvd_mul_left B A) hcG;rw[E5,l7];exact rZ (nL h1) (dvd_trans (dvd_mul_right B R) w1)
 have z1:=Z' H Cy dA;have z2:=Z' H hB2 dB;have h1:=H.one;have h3:=xZ c (c-1) p;rw[z1,z2,show c-(c-1)=1 by omega,h1]at h3;simp at h3
end Fx
def r9(A:PS):PS:=λi=>((i:Int)+1)*A (i+1)
def akX{p:Int}{A B:PS}(h:Cg p A B):Cg p (r9 A) (r9 B):=Cg.of λi=>by show((i:Int)+1)*A (i+1)%p=((i:Int)+1)*B (i+1)%p;rw[mY,h.at,←mY]
def yP{p:Int}{A:PS}(h:aY p A):aY p (r9 A):=by obtain⟨n,h⟩:=h;exact⟨n,λi hi=>Mb (h (i+1) af)⟩
def jQ(p:Nat)(a:List Int)(k:Nat):List Int:=(List.range k).map λj=>a.getD (j*p) 0
def Cz(p:Nat)(r:List Int):PS:=λi=>if i%p=0 then r.getD (i/p) 0 else 0
namespace Fx
variable{p:Nat}
def bG(A:Fx p):Fx p:=Quotient.liftOn A (λA=>mk (r9 A.1) (yP A.2)) (λ_ _ h=>mk_eq.2 (akX h))
def Is(x y:Fx p):bG (x+y)=bG x+bG y:=by obtain⟨A,h,rfl⟩:=ex x;obtain⟨B,k,rfl⟩:=ex y;exact mk_congr (PS.ext λi=>by show((i:Int)+1)*(A (i+1)+B (i+1))=_;rw[px];rfl) _ _
def E8(c:Int):bG (K c:Fx p)=0:=mk_congr (PS.ext λi=>by show((i:Int)+1)*PS.K c (i+1)=0;rw[PS.K,aq af,et]) _ _
def SM:bG (0:Fx p)=0:=by have h:=E8 (p:=p) 0;rwa[mK]at h
def E9(c:Int)(x:Fx p):bG (K c*x)=K c*bG x:=by obtain⟨A,h,rfl⟩:=ex x;exact mk_congr (PS.ext λi=>by show((i:Int)+1)*(PS.K c*A) (i+1)=(PS.K c*r9 A) i;rw[PS.gw,PS.gw,r9,WU]) (yP ((aY.K p c).mul h)) ((aY.K p c).mul (yP h))
def It(x:Fx p):bG (X*x)=x+X*bG x:=by
 obtain⟨A,h,rfl⟩:=ex x;exact mk_congr (PS.ext λi=>by
  show((i:Int)+1)*(PS.X 1*A) (i+1)=A i+(PS.X 1*r9 A) i;rw[PS.qP,PS.qP,aw af,iY];cases i with
  |zero=>simp
  |succ i=>
   rw[aw af,iY,r9,lK,ja,xX];rfl) (yP ((yM 1).mul h)) (h.add ((yM 1).mul (yP h)))
def Iu(B:Fx p):∀a:List Int,bG (fx a*B)=bG (fx a)*B+fx a*bG B
 |[]=>by rw[og,zero_mul,SM,zero_mul,zero_mul,zero_add]
 |c::a=>by have ih:=Iu B a;rw[SE,add_mul,Is,E9,mul_assoc,It,ih,Is,E8,zero_add,It];simp only[add_mul,mul_add];ac_rfl
def vL(H:bI p)(A B:Fx p):bG (A*B)=bG A*B+A*bG B:=by obtain⟨a,_,rfl⟩:=kI H.pos A;exact Iu B a
def Iv(H:bI p)(Q:Fx p):∀e,pk Q e∣bG (pk Q (e+1))
 |0=>⟨bG (pk Q 1),(mul_one _).symm⟩
 |e+1=>by show pk Q e*Q∣bG (pk Q (e+1)*Q);rw[vL H];exact dvd_add (xr (Iv H Q e) (dvd_refl Q)) (dvd_mul_right _ _)
def Iw(H:bI p)(A:Fx p):sz (bG A)≤sz A-1:=by obtain⟨a,ha,rfl⟩:=kI H.pos A;rw[dj ha];exact yN H.pos (yP (aY.ps p a)) (λi hi=>Mb (kl (p:Int) a (i+1) af))
def mult(H:bI p){Q:Fx p}(hQ:cj Q):∀(n:Nat)(F:Fx p),sz F<n→F≠0→∃e h,F=pk Q e*h∧¬Q∣h
 |0,_,h,_=>by omega
 |n+1,F,h,hF=>by
  by_cases hd:Q∣F
  ·obtain⟨w,rfl⟩:=hd;have hw:w≠0:=λe=>hF Ki
   have h1:=eH H hw (hQ.ne H);have h2:=hQ.1;obtain⟨e,g,rfl,h3⟩:=mult H hQ n w af hw;exact⟨e+1,g,by rw[pk];ac_rfl,h3⟩
  ·exact⟨0,F,(one_mul F).symm,hd⟩
def tu(H:bI p){Q:Fx p}(hQ:Q≠0):∀e,pk Q e≠0
 |0=>oh H
 |e+1=>oX H (tu H hQ e) hQ
def aae(H:bI p){F D W U V:Fx p}(hF:F≠0)(hW:F=W*D)(hD:D=U*F+V*bG F):lE W:=by
 intro Q hQ hd;obtain⟨e,h,e1,e2⟩:=mult H hQ _ F (fT _) hF;cases e with
 |zero=>
  refine e2 ?_
  have e1:F=1*h:=e1
  rw[one_mul]at e1
  rw[←e1,hW]
  exact qU (dvd_trans (dvd_mul_left Q Q) hd) D
 |succ e=>
  have h1:pk Q e∣F:=by rw[e1,pk];exact qU (dvd_mul_right _ _) h
  have h2:pk Q e∣bG F:=by rw[e1,vL H];exact dvd_add (qU (Iv H Q e) h) (qU (by rw[pk];exact dvd_mul_right _ _) (bG h))
  have h3:pk Q e∣D:=by rw[hD];exact dvd_add (fl h1 U) (fl h2 V)
  have h4:Q*Q*pk Q e∣F:=by rw[hW];exact xr hd h3
  obtain⟨v,hv⟩:=h4
  refine e2 ⟨v,?_⟩
  refine yO H (tu H (hQ.ne H) (e+1)) ?_
  rw[mul_comm h,←e1,hv,pk];ac_rfl
def SN:∀n,pk (X:Fx p) n=mk (PS.X n) (yM n)
 |0=>rfl
 |n+1=>by rw[pk,SN n];exact mk_congr (PS.L' n 1).symm ((yM n).mul (yM 1)) (yM (n+1))
def aaf(hp:0<p)(r:List Int):aY p (Cz p r):=⟨r.length*p,λi hi=>by
 unfold Cz;split
 ·rw[dH r ((Nat.le_div_iff_mul_le hp).2 hi),dk]
 ·exact dk _⟩
def aag(H:bI p)(hp:0<p):∀r:List Int,pk (fx r) p=mk (Cz p r) (aaf hp r)
 |[]=>by rw[og,SC hp];exact mk_congr (PS.ext λi=>by unfold Cz;split<;>rfl) (aY.zero p) _
 |c::r=>by
  rw[SE,Ic H,Cn H,xm,aag H hp r,SN];refine mk_congr (PS.ext λi=>?_) ((aY.K p c).add ((yM p).mul (aaf hp r))) _;rw[PS.fP,PS.qP];by_cases h:p≤i
  ·obtain⟨j,rfl⟩:∃j,i=j+p:=⟨i-p,by omega⟩;rw[aw h,iY,PS.K,aq af,Br];unfold Cz;rw[Nat.add_mod_right,Nat.add_div_right _ hp];rfl
  ·rw[aq h,nq,PS.K];unfold Cz;rw[rD af,GG af];rfl
def pth(H:bI p){a:List Int}(h:bG (fx a:Fx p)=0){k:Nat}(hk:a.length≤k*p):(fx a:Fx p)=pk (fx (jQ p a k)) p:=by
 have hp:0<p:=xN;have h0:=mk_eq.1 (h:mk (r9 (ps a)) (yP (aY.ps p a))=mk 0 (aY.zero p));rw[aag H hp];refine mk_eq.2 (Cg.of λi=>?_);unfold Cz;by_cases e:i%p=0
 ·rw[aw e];congr 1;have e2:i/p*p=i:=by have:=xU i p;rw[ix];omega
  unfold jQ;by_cases e3:i/p<k
  ·rw[aU,kc,oI e3];show _=a.getD (i/p*p) 0;rw[e2];rfl
  ·rw[dH (List.map _ _) cT,dV,dH a];have:k*p≤i/p*p:=eJ p af;omega
 ·rw[aq e,dk];cases i with
  |zero=>rw[Nat.zero_mod]at e;exact absurd ae e
  |succ i=>
   have h1:=h0.at i
   rw[PS.lZ,dk]at h1
   refine gE λhn=>?_
   refine H.hp.oX (a:=(i:Int)+1) (λh2=>e ?_) hn h1
   have:((i+1:Nat):Int)%(p:Int)=0:=by rw[xV];exact h2
   omega
structure Mon(p:Nat)(a:List Int):Prop where
 c:bX p a
 ne:a≠[]
 one:a.getD (a.length-1) 0=1
def Mon.pos{a:List Int}(h:Mon p a):1≤a.length:=cZ.2 h.ne
def Mon.nj(H:bI p){a:List Int}(h:Mon p a):(fx a:Fx p)≠0:=λe=>by rw[←og]at e;exact h.ne (xo h.c (vI H.pos) e)
def My(H:bI p){a b:List Int}(ha:Mon p a)(hb:Mon p b)(hl:b.length≤a.length):Mon p (bM a b p).1:=by
 obtain⟨d1,d2,d3,d4,d5,d6⟩:=lD H.hp H.le ha.c.1 hb.c hb.ne;have pb:=hb.pos;obtain⟨n,hn⟩:∃n,b.length=n+1:=⟨b.length-1,by omega⟩;obtain⟨m,hm⟩:∃m,a.length=m+n+1:=⟨a.length-1-n,by omega⟩;have hq:(bM a b p).1.length=m+1:=af;have dq:=kl (p:Int) (bM a b p).1;have db:=kl (p:Int) b;rw[hq]at dq;rw[hn]at db;have h1:=d1.at (m+n);have wV:=ha.one;have jq:=hb.one;rw[hm,iY]at wV;rw[hn,iY]at jq;have hr:(ps (bM a b p).2) (m+n)=0:=by rw[dV];exact dH _ af
 rw[PS.fP,hr,nq,dq.top db,dV,dV,dV,wV,jq,ns]at h1;have h2:=d2 m;rw[H.one,iZ h2.1 h2.2]at h1;have ht:(bM a b p).1.getD ((bM a b p).1.length-1) 0=1:=by rw[hq,iY];exact h1.symm
 refine⟨⟨d2,.inr (by rw[ht];decide)⟩,λe=>by rw[e]at hq;simp at hq,ht⟩
def Mz(H:bI p){a b:List Int}(ha:bX p a)(hb:bX p b)(eB:b≠[]):(bM a b p).2=[]↔(fx b:Fx p)∣fx a:=by
 obtain⟨d1,d2,d3,d4,d5,d6⟩:=lD H.hp H.le ha.1 hb eB;have e:(fx a:Fx p)=fx (bM a b p).1*fx b+fx (bM a b p).2:=mk_eq.2 d1;have pb:=cZ.2 eB;constructor
 ·intro h;rw[e,h,og,add_zero];exact dvd_mul_left _ _
 ·intro h;rw[e]at h;have h1:=vK H (xk h (dvd_mul_left _ _)) (by rw[dj (d5 ha),dj hb];omega);rw[←og]at h1;exact xo (d5 ha) (vI H.pos) h1
def AJ(H:bI p){a b:List Int}(ha:bX p a)(hb:bX p b)(eB:b≠[])(h:(fx b:Fx p)∣fx a):(fx a:Fx p)=fx (bM a b p).1*fx b:=by obtain⟨d1,d2,d3,d4,d5,d6⟩:=lD H.hp H.le ha.1 hb eB;have e:(fx a:Fx p)=fx (bM a b p).1*fx b+fx (bM a b p).2:=mk_eq.2 d1;rwa[(Mz H ha hb eB).2 h,og,add_zero]at e
def SO(H:bI p){a b:List Int}(ha:bX p a)(hb:bX p b)(eB:b≠[]):(fx b:Fx p)∣fx (bM a b p).2-fx a:=by obtain⟨d1,_⟩:=lD H.hp H.le ha.1 hb eB;have e:(fx a:Fx p)=fx (bM a b p).1*fx b+fx (bM a b p).2:=mk_eq.2 d1;refine nL ?_;rw[e,yK];exact dvd_mul_left _ _
def aah(H:bI p):∀(k:Nat)(f g:List Int),bX p f→bX p g→g.length<k→(fx (pR p k f g):Fx p)∣fx f∧(fx (pR p k f g):Fx p)∣fx g∧∃U V,(fx (pR p k f g):Fx p)=U*fx f+V*fx g
 |0,_,_,_,_,h=>by omega
 |k+1,f,g,hf,hg,h=>by
  rw[pR];split
  ·rename_i e;subst e;exact⟨dvd_refl _,by rw[og];exact dvd_zero _,1,0,by rw[one_mul,zero_mul,add_zero]⟩
  ·rename_i e;obtain⟨d1,d2,d3,d4,d5,d6⟩:=lD H.hp H.le hf.1 hg e;have hl:=cZ.2 e;have e1:(fx f:Fx p)=fx (bM f g p).1*fx g+fx (bM f g p).2:=mk_eq.2 d1;obtain⟨i1,i2,U,V,i3⟩:=aah H k g (bM f g p).2 hg (d5 hf) af;refine⟨by rw[e1];exact dvd_add (fl i1 _) i2,i1,V,U-V*fx (bM f g p).1,?_⟩;rw[i3,e1,mul_add,sub_mul];have:V*(fx (bM f g p).1*fx g)+V*fx (bM f g p).2+(U*fx g-V*fx (bM f g p).1*fx g)=(U*fx g-V*fx (bM f g p).1*fx g+V*fx (bM f g p).1*fx g)+V*fx (bM f g p).2:=kN;rw[this,l6]
def akZ(H:bI p){a:List Int}(ha:bX p a)(h0:a≠[]):Mon p (l5 p a)∧(l5 p a).length=a.length∧(fx (l5 p a):Fx p)∣fx a∧(∃c,(fx (l5 p a):Fx p)=K c*fx a)∧(fx a:Fx p)=K (a.getD (a.length-1) 0)*fx (l5 p a):=by
 obtain⟨m1,m2,m3,m4,m5⟩:=Sq H.hp H.le ha h0;have hl:=cZ.2 h0;have e:(fx a:Fx p)=K (a.getD (a.length-1) 0)*fx (l5 p a):=by rw[mul_comm];exact mk_eq.2 m5
 refine⟨⟨m1,λe=>by rw[e]at m2;simp at m2;omega,by rw[m2];exact m3⟩,m2,⟨_,e⟩,⟨((ia (a.getD (a.length-1) 0).toNat ((p:Nat):Int).toNat:Nat):Int),?_⟩,e⟩;rw[mul_comm];exact mk_eq.2 m4
def Ff(H:bI p){f g:List Int}(hf:bX p f)(hg:bX p g)(iU:f≠[]):Mon p (gx p f g)∧(fx (gx p f g):Fx p)∣fx f∧(fx (gx p f g):Fx p)∣fx g∧∃U V,(fx (gx p f g):Fx p)=U*fx f+V*fx g:=by
 obtain⟨h1,h2,U,V,h3⟩:=aah H (g.length+1) f g hf hg (fT _);obtain⟨k1,_,_⟩:=Mk H.hp H.le (g.length+1) f g hf hg (fT _);have h0:pR p (g.length+1) f g≠[]:=λe=>by rw[e,og]at h1;obtain⟨w,hw⟩:=h1;rw[mul_zero,←og]at hw;exact iU (xo hf (vI H.pos) hw)
 obtain⟨m1,m2,m3,⟨c,m4⟩,_⟩:=akZ H k1 h0;exact⟨m1,dvd_trans m3 h1,dvd_trans m3 h2,K c*U,K c*V,by rw[gx,m4,h3,mul_add,mul_assoc,mul_assoc]⟩
end Fx
end Go.El
namespace Go.El
open Go Go.RowKit
section
variable{P:Program}{tt:TT}
def aai{n:Nat}{ops:Array Oper}{draw:Bool}{nx:Nat}{Q:St→Prop}(aT:cM P tt=true):∀(os Ix:List Oper)(i:Nat)(st:St)(p:Pr)(ks:List Ks){i':Nat}{st':St}{p':Pr}{cp:List Ks},
  runs tt n nx draw ops.toList os i st p ks=([],i',st',p',cp)→p'.h→(RG P n ops draw nx i' Ix st' cp Q)→p.h∧RG P n ops draw nx i (os++Ix) st ks Q
 |[],Ix,i,st,p,ks,i',st',p',cp,h,hp,hr=>by simp only[runs,cE]at h;obtain⟨_,rfl,rfl,rfl,rfl⟩:=h;exact⟨hp,hr⟩
 |o::os,Ix,i,st,p,ks,i',st',p',cp,h,hp,hr=>by
  simp only[runs]at h;split at h
  ·rename_i st1 q k hs;obtain⟨En,h3⟩:=aai aT os Ix (i+1) st1 (.an p q) (fp draw ks k) h hp hr;obtain⟨h1,h2⟩:=Pr.D3 En;exact⟨h1,Em aT hs h2 (jD h3)⟩
  ·simp only[cE]at h;obtain⟨h0,_⟩:=h;cases h0
def ak0{n:Nat}{ops:Array Oper}{draw:Bool}{nx i:Nat}{os:List Oper}{st:St}{ks:List Ks}{Q:St→Prop}{i':Nat}{st':St}{p':Pr}{cp:List Ks}(aT:cM P tt=true)(k:Nat)
  (h:runs tt n nx draw ops.toList (os.take k) i st .t ks=([],i',st',p',cp)) (hp:p') {o:Oper} {cG:List Oper} (SP:os.drop k=o::cG) (hr:RG P n ops draw nx i' (o::cG) st' cp Q):RG P n ops draw nx i os st ks Q:=by
 have:=(aai aT (os.take k) (os.drop k) i st .t ks h hp (by rw[SP];exact hr)).2
 rwa[xP]at this
def mL{n:Nat}{ops:Array Oper}{draw:Bool}{nx i:Nat}{d:Nat}{t:TypeId}{x:Operand}{ty:TypeId}{pos:String}{cJ:Array Edge}{os:List Oper}{sl:List (Nat×AV)}{mem:List (Nat×aK)}{n0:Nat}{gd:List (Nat×Bool)}{ks:List Ks}{Q:St→Prop}(aT:cM P tt=true)
  {id off:Nat} {E:TypeId} {bz:Nat} {cs:List C} {c:C} (hx:St.ev ⟨sl,mem,n0,gd⟩ x=some (.c (.P id off))) (hl:ao id mem=some (.box E bz cs)) (hc:cs[off]? =some c) (ki:qv tt t=some (1,false))
  (h:RG P n ops draw nx (i+1) os ⟨(d,.c c)::sl,mem,n0,gd⟩ (fp draw ks (cH [x]++fB [id],[.s d])) Q) (aV:Nat.blt d n=true:=by rfl):
  RG P n ops draw nx i (⟨some d,.load t x,ty,pos,cJ,none⟩::os) ⟨sl,mem,n0,gd⟩ ks Q:=by
 have aV:d<n:=cY aV
 refine Em (p:= .t) aT (st1:=⟨(d,.c c)::sl,mem,n0,gd⟩) (k:=(cH [x]++fB [id],[.s d])) ?_ ah (jD h)
 simp only[z5,zZ,aV,cP,hx,G9,ki,hl,pD,mV,cV,hc,Px]
def qV{n:Nat}{ops:Array Oper}{draw:Bool}{nx i:Nat}{d:Nat}{t:TypeId}{x y:Operand}{ty:TypeId}{pos:String}{cJ:Array Edge}{os:List Oper}{sl:List (Nat×AV)}{mem:List (Nat×aK)}{n0:Nat}{gd:List (Nat×Bool)}{ks:List Ks}{Q:St→Prop}(aT:cM P tt=true)
  {id:Nat} {E:TypeId} {T:ET} {xs:List T.den} {k:IntKind} {j:Int} (hx:St.ev ⟨sl,mem,n0,gd⟩ x=some (.c (.X id))) (hl:ao id mem=some (.vec E T xs)) (hy:St.ev ⟨sl,mem,n0,gd⟩ y=some (.c (.I k j))) (dh:wO tt t T.n=true) (h0:0≤j) (h1:j<xs.length)
  (h:RG P n ops draw nx (i+1) os ⟨(d,.c (.Y id T.n j.toNat 0))::sl,mem,n0,gd⟩ (fp draw ks (cH [x,y]++fB [id],[.s d])) Q) (aV:Nat.blt d n=true:=by rfl):
  RG P n ops draw nx i (⟨some d,.indexAddr t x y,ty,pos,cJ,none⟩::os) ⟨sl,mem,n0,gd⟩ ks Q:=by
 have aV:d<n:=cY aV
 refine Em (p:= .and (.le 0 j) (.lt j xs.length)) aT (st1:=⟨(d,.c (.Y id T.n j.toNat 0))::sl,mem,n0,gd⟩) (k:=(cH [x,y]++fB [id],[.s d])) ?_ ⟨h0,h1⟩ (jD h)
 simp only[z5,zZ,aV,cP,hx,hy,K7,hl,dh]
def yQ{n:Nat}{ops:Array Oper}{draw:Bool}{nx i:Nat}{d:Nat}{t:TypeId}{x:Operand}{ty:TypeId}{pos:String}{cJ:Array Edge}{os:List Oper}{sl:List (Nat×AV)}{mem:List (Nat×aK)}{n0:Nat}{gd:List (Nat×Bool)}{ks:List Ks}{Q:St→Prop}(aT:cM P tt=true)
  {id m j off:Nat} {E:TypeId} {T:ET} {xs:List T.den} {sz:Nat} {ag:Bool} {y:AV} (hx:St.ev ⟨sl,mem,n0,gd⟩ x=some (.c (.Y id m j off))) (hl:ao id mem=some (.vec E T xs)) (hm:T.n=m) (ki:qv tt t=some (sz,ag)) (hp:pD (av T (xs.getD j T.eR)) off sz ag=some y) (hj:j<xs.length)
  (h:RG P n ops draw nx (i+1) os ⟨(d,y)::sl,mem,n0,gd⟩ (fp draw ks (cH [x]++fB [id],[.s d])) Q) (aV:Nat.blt d n=true:=by rfl):
  RG P n ops draw nx i (⟨some d,.load t x,ty,pos,cJ,none⟩::os) ⟨sl,mem,n0,gd⟩ ks Q:=by
 have aV:d<n:=cY aV
 refine Em (p:= .KW j xs.length) aT (st1:=⟨(d,y)::sl,mem,n0,gd⟩) (k:=(cH [x]++fB [id],[.s d])) ?_ hj (jD h)
 simp only[z5,zZ,aV,cP,hx,G9,ki,hl,hm,hp]
def ak1{n:Nat}{ops:Array Oper}{draw:Bool}{nx i:Nat}{d:Nat}{t:TypeId}{x:Operand}{ty:TypeId}{pos:String}{cJ:Array Edge}{os:List Oper}{sl:List (Nat×AV)}{mem:List (Nat×aK)}{n0:Nat}{gd:List (Nat×Bool)}{ks:List Ks}{Q:St→Prop}(aT:cM P tt=true)
  {id:Nat} {v:AV} (hx:St.ev ⟨sl,mem,n0,gd⟩ x=some (.c (.X id))) (hl:Ee tt ⟨sl,mem,n0,gd⟩ t id=some v)
  (h:RG P n ops draw nx (i+1) os ⟨(d,v)::sl,mem,n0,gd⟩ (fp draw ks (cH [x]++fB [id],[.s d])) Q) (aV:Nat.blt d n=true:=by rfl):
  RG P n ops draw nx i (⟨some d,.call ⟨.builtin .len,#[x],#[t]⟩,ty,pos,cJ,none⟩::os) ⟨sl,mem,n0,gd⟩ ks Q:=by
 have aV:d<n:=cY aV
 refine Em (p:= .t) aT (st1:=⟨(d,v)::sl,mem,n0,gd⟩) (k:=(cH [x]++fB [id],[.s d])) ?_ ah (jD h)
 simp only[z5,zZ,aV,cP,hx,hl]
def ak2(aT:cM P tt=true){n new:Nat}{ops:Array Oper}{i:Nat}{o:Oper}(ho:ops[i]? =some o)(hg:o.guard=none){d:Nat}(hd:o.dst=some d)(aV:d<n){st:St}{x:AV}{p:Pr}(he:Hy tt st o.op=some (x,p))(hp:p):ll P n ops i st (st.put d x) new (cH o.op.operands.toList,[.s d]):=by refine⟨pE st o.op,[(.s d,some (.v x))],aiA aT ho hg hd aV he hp new,?_,n6 st d x,fX st _,λk hk=>by simpa[fi]using hk⟩;intro kx aS;obtain⟨x,_,h⟩:=jK.1 aS;exact gn st x kx h
def ak3{n:Nat}{ops:Array Oper}{draw:Bool}{nx i:Nat}{d:Nat}{op:Op}{ty:TypeId}{pos:String}{cJ:Array Edge}{os:List Oper}{sl:List (Nat×AV)}{mem:List (Nat×aK)}{n0:Nat}{gd:List (Nat×Bool)}{ks:List Ks}{Q:St→Prop}(aT:cM P tt=true){x:AV}{p:Pr}(he:Hy tt ⟨sl,mem,n0,gd⟩ op=some (x,p))(hp:p)
  (h:RG P n ops draw nx (i+1) os ⟨(d,x)::sl,mem,n0,gd⟩ (fp draw ks (cH op.operands.toList,[.s d])) Q) (aV:Nat.blt d n=true:=by rfl):
  RG P n ops draw nx i (⟨some d,op,ty,pos,cJ,none⟩::os) ⟨sl,mem,n0,gd⟩ ks Q:=
 kT (λho=>ak2 aT ho ae ae (cY aV) he hp) (jD h)
def aaj{n:Nat}{ops:Array Oper}{draw:Bool}{nx i:Nat}{d t:Nat}{x:Operand}{ty:TypeId}{pos:String}{cJ:Array Edge}{os:List Oper}{sl:List (Nat×AV)}{mem:List (Nat×aK)}{n0:Nat}{gd:List (Nat×Bool)}{ks:List Ks}{Q:St→Prop}(aT:cM P tt=true)
  (m:Nat) {k:IntKind} (hx:St.ev ⟨sl,mem,n0,gd⟩ x=some (.c (.I k (m:Int)))) {E:Nat} {ti ei:TI} (fA:ao t tt=some ti) (hk:ti.kind= .sl E) (jN:ao E tt=some ei) (pM:0<ei.size) (hb:m*ei.bytes≤16777216) (dO:m≤16777216)
  (h:RG P n ops draw nx (i+1) os ⟨(d,.c (.L (1000000*nx+1000*i) 0 m (some m)))::sl,(1000000*nx+1000*i,.box E 0 (yn (ei.zero.map ZV.sU) m))::mem,n0,gd⟩ (fp draw ks (cH [x,x],[.s d,.m (1000000*nx+1000*i)])) Q) (aV:Nat.blt d n=true:=by rfl):
  RG P n ops draw nx i (⟨some d,.makeSlice t x x,ty,pos,cJ,none⟩::os) ⟨sl,mem,n0,gd⟩ ks Q:=by
 refine kT (λho=>⟨_,_,aiD aT ho ae ae (cY aV) ae hx hx fA hk jN pM hb dO _,?_,BI ⟨sl,mem,n0,gd⟩ d _ _ _,λk hk=>fX ⟨sl,mem,n0,gd⟩ [x,x] k hk,λk hk=>by simpa[fi]using hk⟩) (jD h)
 intro kx aS
 obtain⟨x,_,h⟩:=jK.1 aS
 exact gn _ x kx h
def ak4(aT:cM P tt=true){ops:Array Oper}{i:Nat}{o:Oper}(ho:ops[i]? =some o)(hg:o.guard=none)(hd:o.dst=none){n:Nat}{t:TypeId}{x y:Operand}(ck:o.op= .store t x y)
  {st:St} {id off j:Nat} {E:TypeId} {bz:Nat} {cs:List C} {E2:TypeId} {T:ET} {xs:List T.den} (hx:st.ev x=some (.c (.P id off))) (hy:st.ev y=some (.c (.X j))) (hl:ao id st.mem=some (.box E bz cs)) (hj:ao j st.mem=some (.vec E2 T xs)) {ag:Bool} (ki:qv tt t=some (1,ag)) (h1:off<cs.length) (new:Nat):
  mA P n ops i (dU st x++dU st y++g7 st [id,j]) [(.m id,some (.b (.box E bz (dG cs [.X j] off))))] new:=by
 intro F gk Q known σ g W a K dX aJ bw hK
 have lN:=gI aJ st x _ hx (λkx aS=>bw kx jw)
 have pJ:=gI aJ st y _ hy (λkx aS=>bw kx jw)
 have Qk:=vd aJ st y _ hy (λkx aS=>bw kx jw)
 have hσ:σ (.m id)=some (.b (.box E bz cs)):=bw (.m id,.b (.box E bz cs)) uR
 have hσj:σ (.m j)=some (.b (.vec E2 T xs)):=bw (.m j,.b (.vec E2 T xs)) (by simp[g7,hj])
 obtain⟨b,vs,rest,hγ,hh,hr,hN,hz,BE⟩:=aJ.df id _ hσ
 have L6:=aJ.df j _ hσj
 obtain⟨b',fy,hv⟩:=lN
 rw[hγ]at fy
 simp only[aO]at fy
 subst fy
 have B6:a.eval y=g.γ j:=pJ
 have iO:pH (a.eval y)=true:=by rw[B6];rcases L6 with⟨e,_⟩|⟨_,_,_,e,_⟩<;>rw[e]<;>rfl
 have BS:(a.eval y).cells=[a.eval y].toArray:=by rw[B6];rcases L6 with⟨e,_⟩|⟨_,_,_,e,_⟩<;>rw[e]<;>rfl
 have sT:bU g [.X j] [a.eval y]:=⟨_,_,ae,pJ,ae⟩
 obtain⟨_,⟨ti,fA,XA⟩,_⟩:=G7 aT ki
 have ahK:=hr.length
 have b7:(Instr.storeAt t (a.eval x) (a.eval y)).run P W= .ok () (jr W b (dG (vs++rest) [a.eval y] off) E):=by rw[hv];simp only[Instr.storeAt,Instr.sureAddr,storeVar,Sem.run_bind,Sem.run_pure,Result.andThen,run_sizeOf fA,BS];have:¬([a.eval y].toArray.size≠ti.size):=cT;simp only[this,cV];have:=Ec (P:=P) b [a.eval y] W (vs++rest) off 0 hh cT (by simpa using iO);simp only[kg]at this;simpa using this
 unfold wpOp
 simp only[ho,Region.wanted,hg,cP]
 refine .inl ?_
 unfold Oper.wp
 have hex:(execOp a.eval o).run P W= .ok .skip (jr W b (dG (vs++rest) [a.eval y] off) E):=by rw[execOp,ck];simp[b7,Sem.run,pure]
 rw[hex]
 simp only[Oper.upon,hd,Act.put]
 have hb:b<W.heap.size:=(jU.1 hh).1
 refine hK g _ a (aJ.step (chg:=λj=>j=id) (g':=g) ⟨⟨cF.refl _,λ_ _=>rfl⟩,λ_ _ _=>rfl,He aJ.sub hz,by simp[jr],?_,ae,ae,ae⟩ _ new dX ae aJ.defers (λ_ _=>rfl) ?_ ?_ ?_ ?_ ?_)
 ·intro k hk aR;have:b≠k:=λe=>aR id ae (by rw[hγ,e])
  exact D9 this
 ·intro j hj;subst hj;exact⟨by simp[bc],_,hσ⟩
 ·intro t' v' ht;simp[bc]at ht
 ·intro q bk hq;simp only[bc]at hq;split at hq
  ·rename_i e;simp only[Key.m.injEq]at e;subst e;simp only[aO,Info.b.injEq]at hq;subst hq;have BF:dG (vs++rest) [a.eval y] off=dG vs [a.eval y] off++rest:=Xz vs rest _ off cT;exact⟨⟨b,dG vs [a.eval y] off,rest,hγ,by rw[D8 hb,BF],hr.dG sT off,hN,hz,λh0=>by obtain⟨c,e1,e2⟩:=BE h0;refine⟨c,e1,?_⟩;rw[←BF,Ea _ _ _ cT];exact e2⟩,.inl ⟨aJ.fF _ _ hσ,_,hσ⟩⟩
  ·simp at hq
 ·intro k z g8;simp only[bc]at g8;split at g8
  ·simp only[aO]at g8;subst g8;intro q hq;rcases Qj _ _ _ q hq with h|h
   ·exact .inl (aJ.aD _ _ hσ q h)
   ·exact .inl (Qk q (by simpa[cD,AV.aD]using h))
  ·simp at g8
 ·intro q z g8;simp only[bc]at g8;split at g8
  ·rename_i e;simp only[Key.m.injEq]at e;subst e;exact .inl (aJ.fF _ _ hσ)
  ·simp at g8
def ak6{α:Type}(vs:List α)(u:α)(off:Nat)(h:off<vs.length):dG vs [u] off=vs.set off u:=by unfold dG;rw[List.set_eq_take_append_cons_drop,aw h,np];rfl
def Fg{n:Nat}{ops:Array Oper}{draw:Bool}{nx i:Nat}{t:TypeId}{x y:Operand}{ty:TypeId}{pos:String}{cJ:Array Edge}{os:List Oper}{sl:List (Nat×AV)}{mem:List (Nat×aK)}{n0:Nat}{gd:List (Nat×Bool)}{ks:List Ks}{Q:St→Prop}(aT:cM P tt=true)
  {id off j:Nat} {E:TypeId} {bz:Nat} {cs:List C} {E2:TypeId} {T:ET} {xs:List T.den} (hx:St.ev ⟨sl,mem,n0,gd⟩ x=some (.c (.P id off))) (hy:St.ev ⟨sl,mem,n0,gd⟩ y=some (.c (.X j))) (hl:ao id mem=some (.box E bz cs)) (hj:ao j mem=some (.vec E2 T xs)) {ag:Bool} (ki:qv tt t=some (1,ag)) (h1:off<cs.length)
  (h:RG P n ops draw nx (i+1) os ⟨sl,(id,.box E bz (cs.set off (.X j)))::mem,n0,gd⟩ (fp draw ks (cH [x,y]++fB [id,j],[.m id])) Q):
  RG P n ops draw nx i (⟨none,.store t x y,ty,pos,cJ,none⟩::os) ⟨sl,mem,n0,gd⟩ ks Q:=by
 refine kT (λho=>⟨_,_,ak4 aT ho ae ae ae hx hy hl hj ki h1 _,?_,?_,?_,λk hk=>by simpa[fi]using hk⟩) (jD h)
 ·intro kx aS;rcases b6.1 aS with h|h
  ·rcases b6.1 h with h|h
   ·exact gn _ x kx h
   ·exact gn _ y kx h
  ·exact rQ _ [id,j] kx h
 ·rw[ak6 _ _ _ h1];exact Ld ⟨sl,mem,n0,gd⟩ id _
 ·intro k hk;simp only[dT,eh,b6]at hk;rcases hk with(h|h)|h
  ·exact fS _ (fX ⟨sl,mem,n0,gd⟩ [x,y] k zk)
  ·exact fS _ (fX ⟨sl,mem,n0,gd⟩ [x,y] k zm)
  ·exact j9 _ (qC ⟨sl,mem,n0,gd⟩ [id,j] k h)
end
def oj(ρ:Nat→Nat):C→C
 | .P id o=> .P (ρ id) o
 | .X id=> .X (ρ id)
 | .Y id n i o=> .Y (ρ id) n i o
 | .L id o l c=> .L (ρ id) o l c
 | .W id o l=> .W (ρ id) o l
 |c=>c
def Iy(ρ:Nat→Nat):AV→AV
 | .c x=> .c (oj ρ x)
 | .a cs=> .a (cs.map (oj ρ))
 | .t ss=> .t (ss.map λs=>(s.1,s.2.map (oj ρ)))
def CA(ρ:Nat→Nat):aK→aK
 | .box E bz cs=> .box E bz (cs.map (oj ρ))
 | .vec E T xs=> .vec E T xs
 | .fW f a b=> .fW f (a.map λs=>(s.1,s.2.map (oj ρ))) (b.map λs=>(s.1,s.2.map (oj ρ)))
 | .fz E cs=> .fz E (cs.map (oj ρ))
def SQ{g:Gh}{ρ:Nat→Nat}:∀{c:C}{v:Value},dt g (oj ρ c) v→dt ⟨g.H,λid=>g.γ (ρ id)⟩ c v
 | .any,_,h=>h
 | .B _,_,h=>h
 | .I _ _,_,h=>h
 | .V _,_,h=>h
 | .S _ _,_,h=>h
 | .P _ _,_,h=>h
 | .X _,_,h=>h
 | .Y _ _ _ _,_,h=>h
 | .E _ _ _,_,h=>h
 | .M _,_,h=>h
 | .L _ _ _ (some _),_,h=>h
 | .L _ _ _ none,_,h=>h
 | .W _ _ _,_,h=>h
def Iz{g:Gh}{ρ:Nat→Nat}:∀{cs:List C}{vs:List Value},bU g (cs.map (oj ρ)) vs→bU ⟨g.H,λid=>g.γ (ρ id)⟩ cs vs
 |[],_,h=>h
 |_::_,_,h=>by obtain⟨v,r,e,h1,h2⟩:=h;exact⟨v,r,e,SQ h1,Iz h2⟩
def MA{g:Gh}{ρ:Nat→Nat}:∀{cs:List (Bool×List C)}{vs:List Value},dv g (cs.map λs=>(s.1,s.2.map (oj ρ))) vs→dv ⟨g.H,λid=>g.γ (ρ id)⟩ cs vs
 |[],_,h=>h
 | (b,c)::_,_,h=>by
  obtain⟨v,r,e,h1,h2⟩:=h;refine⟨v,r,e,?_,MA h2⟩;match b,c,h1 with
  |true,c,h1=>obtain⟨vs,e,h⟩:=h1;exact⟨vs,e,Iz h⟩
  |false,[c],h1=>exact SQ h1
  |false,[],h1=>exact h1.elim
  |false,_::_::_,h1=>exact h1.elim
def aak{g:Gh}{ρ:Nat→Nat}{x:AV}{v:Value}(h:bP g (Iy ρ x) v):bP ⟨g.H,λid=>g.γ (ρ id)⟩ x v:=by
 cases x with
 |c y=>exact SQ h
 |a cs=>obtain⟨vs,e,h⟩:=h;exact⟨vs,e,Iz h⟩
 |t ss=>obtain⟨vs,e,h⟩:=h;exact⟨vs,e,MA h⟩
def aal{N:Nat→Prop}{g:Gh}{W:World}{ρ:Nat→Nat}{id:Nat}{b:aK}(h:jn N g W (ρ id) (CA ρ b)):jn N ⟨g.H,λid=>g.γ (ρ id)⟩ W id b:=by
 cases b with
 |box E bz cs=>
  obtain⟨k,vs,rest,e1,e2,e3,e4,e5,e6⟩:=h
  exact⟨k,vs,rest,e1,e2,Iz e3,e4,e5,e6⟩
 |vec E T ys=>
  rcases h with⟨e1,e2⟩|⟨k,cap,vs,e1,e2⟩
  ·exact .inl ⟨e1,e2⟩
  ·exact .inr ⟨k,cap,vs,e1,e2⟩
 |fW f first caps=>
  obtain⟨us,ws,e1,e2,e3⟩:=h
  exact⟨us,ws,e1,MA e2,MA e3⟩
 |fz E cs=>
  obtain⟨k,vs,rest,e1,e2,e3,e4,e5⟩:=h
  exact⟨k,vs,rest,e1,e2,Iz e3,e4,e5⟩
def CB(ρ:Nat→Nat)(l:List (Nat×AV)):List (Nat×AV)→Prop
 |[]=>True
 | (t,v')::r=>(∃v,ao t l=some v∧au v (Iy ρ v'))∧CB ρ l r
def j4(ρ:Nat→Nat)(l:List (Nat×aK)):List (Nat×aK)→Prop
 |[]=>True
 | (t,v')::r=>(∃v,ao (ρ t) l=some v∧di v (CA ρ v'))∧j4 ρ l r
def CB.get{ρ:Nat→Nat}{l:List (Nat×AV)}:∀{m:List (Nat×AV)},CB ρ l m→∀{t v'},ao t m=some v'→∃v,ao t l=some v∧au v (Iy ρ v')
 |[],_,_,_,h=>by simp[ao]at h
 | (k,x)::m,hw,t,v',h=>by
  simp only[ao]at h;split at h
  ·rename_i e;subst e;cases h;exact hw.1
  ·exact CB.get hw.2 h
def j4.get{ρ:Nat→Nat}{l:List (Nat×aK)}:∀{m:List (Nat×aK)},j4 ρ l m→∀{t v'},ao t m=some v'→∃v,ao (ρ t) l=some v∧di v (CA ρ v')
 |[],_,_,_,h=>by simp[ao]at h
 | (k,x)::m,hw,t,v',h=>by
  simp only[ao]at h;split at h
  ·rename_i e;subst e;cases h;exact hw.1
  ·exact j4.get hw.2 h
def eQ(K:Nat)(m:List (Nat×aK)):Prop:=∀t v,ao t m=some v→t<K∧∀id∈v.aD,id<K
def xt(ρ:Nat→Nat){st st':St}(hs:CB ρ st.sl st'.sl)(hm:j4 ρ st.mem st'.mem)(h0:ρ 0=0)(IA:∀id b9,(ao id st'.mem).isSome=true→(ao b9 st'.mem).isSome=true→ρ id=ρ b9→id=b9)
  (uz:eQ (1000000*st'.nx) st'.mem) (qW:sY (1000000*st'.nx) st'.sl=true:=by rfl) (fe:Nat.ble 1 st'.nx=true:=by rfl):Wk st st':=by
 intro F gV g W a h
 have fe:=cY fe
 let g':Gh:=⟨g.H,λid=>g.γ (ρ id)⟩
 have hS:∀t v',st'.kn (.s t)=some (.v v')→(∃v,st.kn (.s t)=some (.v v)∧au v (Iy ρ v'))∧∀id∈v'.aD,id<1000000*st'.nx:=by intro t v' e;simp only[St.kn,ct]at e;obtain⟨x,hx,he⟩:=e;cases he;obtain⟨v,hv,hle⟩:=hs.get hx;exact⟨⟨v,by simp[St.kn,hv],hle⟩,z9 qW t v' hx⟩
 have hM:∀id b',st'.kn (.m id)=some (.b b')→(∃b,st.kn (.m (ρ id))=some (.b b)∧di b (CA ρ b'))∧(id<1000000*st'.nx∧∀j∈b'.aD,j<1000000*st'.nx)∧(ao id st'.mem).isSome=true:=by intro t v' e;simp only[St.kn,ct]at e;obtain⟨x,hx,he⟩:=e;cases he;obtain⟨v,hv,hle⟩:=hm.get hx;exact⟨⟨v,by simp[St.kn,hv],hle⟩,uz t v' hx,by rw[hx];rfl⟩
 refine⟨g',h.size,h.defers,?_,?_,?_,?_,?_,h.sub,h.below,h.le,h.fresh,?_⟩
 ·intro t v' e;obtain⟨⟨v,hv,hle⟩,_⟩:=hS t v' e;exact aak (hle.1 _ _ (h.gG t v hv))
 ·intro id b' e;obtain⟨⟨b,hb,hle⟩,_⟩:=hM id b' e;exact aal (hle.1 _ _ _ _ (h.df (ρ id) b hb))
 ·intro id b9 b b' k e e' hk dx;obtain⟨⟨c,hc,_⟩,_,h1⟩:=hM id b e;obtain⟨⟨c',pI,_⟩,_,h2⟩:=hM b9 b' e';exact IA id b9 h1 h2 (h.inj (ρ id) (ρ b9) c c' k hc pI hk dx)
 ·intro k x e id al;cases k with
  |s t=>
   cases x with
   |v v'=>exact(hS t v' e).2 id al
   |b b'=>simp only[St.kn,ct]at e;obtain⟨_,_,he⟩:=e;cases he
  |m j=>
   cases x with
   |v v'=>simp only[St.kn,ct]at e;obtain⟨_,_,he⟩:=e;cases he
   |b b'=>exact(hM j b' e).2.1.2 id al
 ·intro id x e;cases x with
  |v v'=>simp only[St.kn,ct]at e;obtain⟨_,_,he⟩:=e;cases he
  |b b'=>exact(hM id b' e).2.1.1
 ·intro id al;have hz:id=0:=af;subst hz;refine⟨?_,?_⟩
  ·show 0<1000000*st'.nx;omega
  ·show g.γ (ρ 0)=_;rw[h0];exact(h.iz 0 al).2
def IB{st st':St}(hs:ye st.sl st'.sl)(hm:iQ st.mem st'.mem)(uz:eQ (1000000*st'.nx) st'.mem)(qW:sY (1000000*st'.nx) st'.sl=true:=by rfl)(fe:Nat.ble 1 st'.nx=true:=by rfl):Wk st st':=by
 intro F gV g W a h;have yf:∀id,id<F.k0→kb st' id∧g.γ id=F.γ0 id:=by intro id al;obtain⟨h1,h2⟩:=h.iz id al;refine⟨?_,h2⟩;have h1:id<1000000*st.nx:=h1;show id<1000000*st'.nx;have:=cY fe;omega
 have hS:∀t v',st'.kn (.s t)=some (.v v')→(∃v,st.kn (.s t)=some (.v v)∧au v v')∧∀id∈v'.aD,id<1000000*st'.nx:=by intro t v' e;simp only[St.kn,ct]at e;obtain⟨x,hx,he⟩:=e;cases he;obtain⟨v,hv,hle⟩:=hs.get hx;exact⟨⟨v,by simp[St.kn,hv],hle⟩,z9 qW t v' hx⟩
 have hM:∀id b',st'.kn (.m id)=some (.b b')→(∃b,st.kn (.m id)=some (.b b)∧di b b')∧id<1000000*st'.nx∧∀j∈b'.aD,j<1000000*st'.nx:=by intro t v' e;simp only[St.kn,ct]at e;obtain⟨x,hx,he⟩:=e;cases he;obtain⟨v,hv,hle⟩:=hm.get hx;exact⟨⟨v,by simp[St.kn,hv],hle⟩,uz t v' hx⟩
 refine⟨g,h.size,h.defers,?_,?_,?_,?_,?_,h.sub,h.below,h.le,h.fresh,yf⟩
 ·intro t v' e;obtain⟨⟨v,hv,hle⟩,_⟩:=hS t v' e;exact hle.1 _ _ (h.gG t v hv)
 ·intro id b' e;obtain⟨⟨b,hb,hle⟩,_⟩:=hM id b' e;exact hle.1 _ _ _ _ (h.df id b hb)
 ·intro id b9 b b' k e e' hk dx;obtain⟨⟨c,hc,_⟩,_⟩:=hM id b e;obtain⟨⟨c',pI,_⟩,_⟩:=hM b9 b' e';exact h.inj id b9 c c' k hc pI hk dx
 ·intro k x e id al;cases k with
  |s t=>
   cases x with
   |v v'=>exact(hS t v' e).2 id al
   |b b'=>simp only[St.kn,ct]at e;obtain⟨_,_,he⟩:=e;cases he
  |m j=>
   cases x with
   |v v'=>simp only[St.kn,ct]at e;obtain⟨_,_,he⟩:=e;cases he
   |b b'=>exact(hM j b' e).2.2 id al
 ·intro id x e;cases x with
  |v v'=>simp only[St.kn,ct]at e;obtain⟨_,_,he⟩:=e;cases he
  |b b'=>exact(hM id b' e).2.1
def eQ.nil{K:Nat}:eQ K []:=λ_ _ h=>by cases h
def eQ.cons{K id:Nat}{b:aK}{m:List (Nat×aK)}(h1:id<K)(h2:∀j∈b.aD,j<K)(h:eQ K m):eQ K ((id,b)::m):=λt v e=>by
 simp only[ao]at e;split at e
 ·rename_i e2;cases e;subst e2;exact⟨h1,h2⟩
 ·exact h t v e
def eQ.of{K:Nat}{m:List (Nat×aK)}(h:nC K m=true):eQ K m:=Lk h
def SR{cs:List C}{K:Nat}(h:∀c∈cs,∀id∈c.aD,id<K):∀j∈cD cs,j<K:=by
 induction cs with
 |nil=>intro j hj;cases hj
 |cons c cs ih=>
  intro j hj
  rcases b6.1 hj with h1|h1
  ·exact h c be j h1
  ·exact ih (λd hd=>h d (by simp[hd])) j h1
def gA(r:Nat)(E:TypeId)(T:ET)(f:Nat→List T.den):List (Nat×aK):=(List.range r).map λi=>(1+i,aK.vec E T (f i))
def yR{α:Type}(t:Nat):∀(a b:List (Nat×α)),ao t (a++b)=(ao t a).or (ao t b)
 |[],_=>rfl
 | (k,x)::a,b=>by
  simp only[mX,ao];split
  ·rfl
  ·exact yR t a b
def cw{r:Nat}{E:TypeId}{T:ET}{f:Nat→List T.den}:∀{i:Nat},i<r→ao (1+i) (gA r E T f)=some (.vec E T (f i)):=by
 induction r with
 |zero=>intro i h;omega
 |succ r ih=>
  intro i h
  unfold gA at ih⊢
  rw[qk,eh,yR]
  by_cases e:i<r
  ·rw[ih e];rfl
  ·have:i=r:=by omega
   subst this;have hn:∀n,n≤i→ao (1+i) ((List.range n).map λj=>(1+j,aK.vec E T (f j)))=none:=by
    intro n hn;induction n with
    |zero=>rfl
    |succ n SS=>
     rw[qk,eh,yR,SS af]
     simp only[jL,GL,ao]
     rw[aq af];rfl
   rw[hn i (bD _)];simp[ao]
def MB{r:Nat}{E:TypeId}{T:ET}{f:Nat→List T.den}{id:Nat}{b:aK}:ao id (gA r E T f)=some b→∃i,i<r∧id=1+i∧b= .vec E T (f i):=by
 induction r with
 |zero=>intro h;cases h
 |succ r ih=>
  intro h
  unfold gA at ih h
  rw[qk,eh,yR]at h
  cases h1:ao id ((List.range r).map λi=>(1+i,aK.vec E T (f i)))with
  |some b'=>
   rw[h1]at h
   cases h
   obtain⟨i,h2,h3,h4⟩:=ih h1
   exact⟨i,by omega,h3,h4⟩
  |none=>
   rw[h1]at h
   simp only[jL,GL,ao,Option.none_or]at h
   split at h
   ·rename_i e;cases h;exact⟨r,by omega,e.symm,ae⟩
   ·cases h
def MC:List (Nat×aK)→Bool
 |[]=>true
 | (id,_)::r=>(Nat.beq id 0||Nat.ble 1000 id)&&MC r
def ak7{m:List (Nat×aK)}:MC m=true→∀{i:Nat},i<900→ao (1+i) m=none:=by
 induction m with
 |nil=>intro _ i _;rfl
 |cons x m ih=>
  obtain⟨id,b⟩:=x
  intro h i hi
  simp only[MC,eX,zz]at h
  simp only[ao]
  rw[aq]
  ·exact ih h.2 hi
  ·intro e;rcases h.1 with h1|h1
   ·have:=DC h1;omega
   ·have:=cY h1;omega
def eQ.app{K:Nat}{a b:List (Nat×aK)}(ha:eQ K a)(hb:eQ K b):eQ K (a++b):=λt v h=>by
 rw[yR]at h;cases h1:ao t a with
 |some x=>rw[h1]at h;cases h;exact ha t _ h1
 |none=>rw[h1]at h;exact hb t v h
def eQ.gA{K r:Nat}(h:1+r≤K){E:TypeId}{T:ET}{f:Nat→List T.den}:eQ K (gA r E T f):=λt v e=>by obtain⟨i,h1,rfl,rfl⟩:=MB e;exact⟨by omega,λid al=>by cases al⟩
def j4.app{ρ:Nat→Nat}{l:List (Nat×aK)}:∀{a b:List (Nat×aK)},j4 ρ l a→j4 ρ l b→j4 ρ l (a++b)
 |[],_,_,h=>h
 |_::_,_,h,k=>⟨h.1,j4.app h.2 k⟩
def j4.map{ρ:Nat→Nat}{l:List (Nat×aK)}{g:Nat→Nat×aK}:∀{L:List Nat},(∀i∈L,∃v,ao (ρ (g i).1) l=some v∧di v (CA ρ (g i).2))→j4 ρ l (L.map g)
 |[],_=>trivial
 |i::L,h=>⟨h i be,j4.map λj hj=>h j (by simp[hj])⟩
def j4.gA{ρ:Nat→Nat}{l:List (Nat×aK)}{r:Nat}{E:TypeId}{T:ET}{f:Nat→List T.den}(h:∀i,i<r→ao (ρ (1+i)) l=some (.vec E T (f i))):j4 ρ l (gA r E T f):=
 j4.map λi hi=>⟨_,h i (k7.1 hi),di.refl _⟩
def iQ.app{l:List (Nat×aK)}:∀{a b:List (Nat×aK)},iQ l a→iQ l b→iQ l (a++b)
 |[],_,_,h=>h
 |_::_,_,h,k=>⟨h.1,iQ.app h.2 k⟩
def iQ.map{l:List (Nat×aK)}{g:Nat→Nat×aK}:∀{L:List Nat},(∀i∈L,∃v,ao (g i).1 l=some v∧di v (g i).2)→iQ l (L.map g)
 |[],_=>trivial
 |i::L,h=>⟨h i be,iQ.map λj hj=>h j (by simp[hj])⟩
def iQ.gA{l:List (Nat×aK)}{r:Nat}{E:TypeId}{T:ET}{f:Nat→List T.den}(h:∀i,i<r→ao (1+i) l=some (.vec E T (f i))):iQ l (gA r E T f):=
 iQ.map λi hi=>⟨_,h i (k7.1 hi),di.refl _⟩
def SU{K:Nat}:∀{a b:List (Nat×aK)},nC K a=true→nC K b=true→nC K (a++b)=true
 |[],_,_,h=>h
 | (id,v)::a,b,h,k=>by simp only[nC,eX,mX]at h⊢;exact⟨h.1,SU h.2 k⟩
def ak8{K r:Nat}(h:1+r≤K){E:TypeId}{T:ET}{f:Nat→List T.den}:nC K (gA r E T f)=true:=by
 unfold Go.El.gA;have:∀L:List Nat,(∀i∈L,i<r)→nC K (L.map λi=>(1+i,aK.vec E T (f i)))=true:=by
  intro L hL;induction L with
  |nil=>rfl
  |cons i L ih=>
   have hi:=hL i be
   simp only[jL,nC,aK.aD,sX,Bool.and_true,eX]
   refine⟨WG af,ih λj hj=>hL j (by simp[hj])⟩
 exact this _ λi hi=>k7.1 hi
def aam{K:Nat}:∀{cs:List C},(∀c∈cs,∀id∈c.aD,id<K)→sX K (cD cs)=true
 |[],_=>rfl
 |c::cs,h=>by
  have h1:∀{l m:List Nat},sX K l=true→sX K m=true→sX K (l++m)=true:=by
   intro l m hl hm;induction l with
   |nil=>exact hm
   |cons x l ih=>
    simp only[sX,eX,mX]at hl⊢
    exact⟨hl.1,ih hl.2⟩
  have h2:∀{l:List Nat},(∀id∈l,id<K)→sX K l=true:=by
   intro l hl;induction l with
   |nil=>rfl
   |cons x l ih=>
    simp only[sX,eX]
    exact⟨WG (hl x be),ih λy hy=>hl y oG⟩
  exact h1 (h2 (h c be)) (aam λd hd=>h d (by simp[hd]))
section
variable{P:Program}{tt:TT}{n:Nat}{st:St}
def ak9(aT:cM P tt=true){fn:Func}{t id r:Nat}{E0:TypeId}{bz:Nat}{E:TypeId}{T:ET}{f:Nat→List T.den}(hl:ao t st.sl=some (.c (.L id 0 r (some r))))(hm:ao id st.mem=some (.box E0 bz ((List.range r).map λi=> .X (1+i))))(hf:∀i,i<r→ao (1+i) st.mem=some (.vec E T (f i)))(hr:r≤140737488355328)(fM:fn.results= #[.tmp t]:=by rfl):gq n .ret st (Ll P fn (.c (.S (.sl T) ((List.range r).map f)))):=by
 intro F hF g W a h sZ;obtain⟨u,hu,bW⟩:=BQ (rs:=[.tmp t]) (v:= .c (.L id 0 r (some r))) aT h fM (by simp[ua,BO,hl]);obtain⟨b,vs,rest,hγ,hh,kF,hN,hz,_⟩:=h.df id (.box E0 bz ((List.range r).map λi=> .X (1+i))) (by simp[St.kn,hm]);obtain⟨b',fy,Ai⟩:=bW;rw[hγ]at fy;simp only[aO]at fy;subst fy;have jO:=λi(hi:i<r)=>h.df (1+i) (.vec E T (f i)) (by simp[St.kn,hf i hi])
 let S:Nat→Prop:=λk=>k=b∨∃i,i<r∧cQ (g.γ (1+i))=some k
 have SV:∀k,S k→∀o,g.H k o=none:=by
  rintro k (rfl|⟨i,hi,hk⟩) o
  ·exact hz o
  ·rcases jO i hi with⟨e,_⟩|⟨b2,cap,us,e,_,_,_,_,_,_,wQ⟩
   ·rw[e]at hk;cases hk
   ·rw[e]at hk;simp only[cQ,aO]at hk;subst hk;exact wQ o
 have hSN:∀k,S k→F.N k:=by
  rintro k (rfl|⟨i,hi,hk⟩)
  ·exact hN
  ·exact((jO i hi).block hk).1
 classical
 let H':FH:=λk o=>if S k then W.cell? ⟨k,o,none⟩else g.H k o
 have hle:cF g.H H':=by
  intro k o v hv;by_cases e:S k
  ·rw[SV k e o]at hv;cases hv
  ·simp only[H',aq e];exact hv
 refine⟨h.defers.trans hF.ds,u,hu,u,H',ae,?_,cF.trans h.le hle,?_,?_,⟨h.below.os,h.below.tape,h.below.output,h.below.size,λk hk=>h.below.block k hk (sZ k)⟩⟩
 ·have kS:=kF.length;simp only[dM,Bk]at kS;refine⟨some ⟨b,0,none⟩,r,by rw[Ai];simp,by simp,by simpa using hr,?_⟩;by_cases h0:r=0
  ·subst h0;exact .inl ae
  refine .inr ⟨b,0,ae,λi hi=>?_⟩;have pC:i<r:=by simpa using hi
  have wY:((List.range r).map λi=>C.X (1+i))[i]? =some (.X (1+i)):=by simp[pC]
  obtain⟨w,hw,zS⟩:=bU.get kF wY;have Fh:w=g.γ (1+i):=zS;refine⟨[w],ae,?_,?_⟩
  ·simp only[sH,Bj];refine⟨w,ae,?_⟩;rw[Fh];rcases jO i pC with⟨e,e2⟩|⟨b2,cap,us,e,e2,e3,e4,e5,e6,e7,e8⟩
   ·rw[e,e2];exact⟨none,0,ae,by simp,by simp,.inl ae⟩
   ·refine⟨some ⟨b2,0,none⟩,cap,e,e4,e5,?_⟩;by_cases hx:f i=[]
    ·exact .inl hx
    refine .inr ⟨b2,0,ae,λk hk=>⟨(us.drop (k*T.n)).take T.n,dm.length T _ _ (e6 k hk),dm.mono hle T _ _ (e6 k hk),λj hj=>?_⟩⟩;have hS:S b2:= .inr ⟨i,pC,by rw[e];rfl⟩;have dR:(k+1)*T.n≤cap*T.n:=eJ _ af;rw[fV,jb]at dR;simp only[fI,DH]at hj;simp only[H',aw hS,eZ,uW,wF];exact tV e2 _ af
  ·intro j hj;have CC:j=0:=zo;subst CC;have hS:S b:= .inl ae;have IC:i<vs.length:=af;have SW:vs[i]=w:=by rw[cr IC]at hw;exact GJ hw
   simp only[H',aw hS,eZ,xO,ET.n,k9,kg];rw[tV hh i cT,zv IC,SW]
 ·intro k o hk;have hS:¬S k:=λe=>by
   rcases hSN k e with h1|h1
   ·omega
   ·exact sZ k h1
  simp only[H',aq hS];exact h.fresh k o hk (sZ k)
 ·intro k o v hv;by_cases e:S k
  ·simp only[H',aw e]at hv;exact hv
  ·simp only[H',aq e]at hv;exact h.sub k o v hv
end
def ME(m:Nat)(b:Ks):List Ks→Nat→Bool
 |[],_=>true
 |a::l,i=>(m.testBit i|| !sW a b)&&ME m b l (i+1)
def MF:List Nat→List Ks→List Ks→Bool
 |m::ms,b::bs,done=>ME m b done 0&&MF ms bs (done++[b])
 |[],[],_=>true
 |_,_,_=>false
def SX(ops:List Oper)(ks:List Ks):Bool:=Ej ops 0&&MF (x9 ops []) ks []
def aan(m:Nat)(b:Ks):∀(l:List Ks)(i:Nat),ME m b l i=BJ m b l i
 |[],_=>rfl
 |a::l,i=>by rw[ME,BJ,aan m b l,Bool.or_comm]
def aao:∀(ms:List Nat)(bs done:List Ks),MF ms bs done=ya ms bs done
 |[],[],_=>rfl
 |[],_::_,_=>rfl
 |_::_,[],_=>rfl
 |m::ms,b::bs,done=>by rw[MF,ya,aan,aao ms bs]
def qX{draw:Bool}{ops:List Oper}{ks:List Ks}(h:(!draw||SX ops ks)=true):(!draw||tX ops ks)=true:=by
 have:SX ops ks=tX ops ks:=by rw[SX,tX,aao]
 rwa[this]at h
def Fi(f:FuncId)(first caps:List (Bool×List C)):MP where
 p:=λH v=>∃H0,∃us ws:List Value,cF H0 H∧v= .func (.func f) us.toArray ws.toArray∧dv ⟨H0,jd⟩ first us∧dv ⟨H0,jd⟩ caps ws
 mono:=by rintro H H' v hl ⟨H0,us,ws,h0,h⟩;exact⟨H0,us,ws,h0.trans hl,h⟩
def dv.il{g:Gh}{ss:List (Bool×List C)}{vs:List Value}(h:dv g ss vs)(hm:fJ ss=[]){H:FH}(hl:cF g.H H)(γ:Nat→Value):dv ⟨H,γ⟩ ss vs:=
 dv.mono (known:=λ_=>False) ⟨hl,λ_ h=>h.elim⟩ (by simp[hm]) h
section
variable{P:Program}{tt:TT}
def ala{n new:Nat}{ops:Array Oper}{i:Nat}{o:Oper}(ho:ops[i]? =some o)(hg:o.guard=none){d:Nat}(hd:o.dst=some d)(aV:d<n){f:FuncId}{first caps:Array Operand}(ck:o.op= .makeFunc (.func f) first caps)
  {st:St} {fs cs:List (Bool×List C)} (hf:rS st first.toList=some fs) (hc:rS st caps.toList=some cs) (h1:fJ fs=[]) (h2:fJ cs=[]):ll P n ops i st (st.put d (.c (.M (Fi f fs cs)))) new (cH (first.toList++caps.toList),[.s d]):=by
 refine⟨(first.toList++caps.toList).flatMap (dU st),[(.s d,some (.v (.c (.M (Fi f fs cs)))))],?_,?_,n6 st d _,fX st _,λk hk=>by simpa[fi]using hk⟩
 ·refine ve ho hg hd aV _ _ new ?_;intro F known σ g W a aJ bw;obtain⟨Ew,_⟩:=HB aJ st _ _ hf (λkx aS=>bw kx (by rw[zw];exact fS _ aS));obtain⟨lQ,_⟩:=HB aJ st _ _ hc (λkx aS=>bw kx (by rw[zw];exact j9 _ aS));refine⟨λj hj=>by simp[AV.aD,C.aD]at hj,.func (.func f) (first.toList.map a.eval).toArray (caps.toList.map a.eval).toArray,?_,g.H,_,_,cF.refl _,ae,Ew.il h1 (cF.refl _) jd,lQ.il h2 (cF.refl _) jd⟩;rw[execOp,ck];have e1:first.map a.eval=(first.toList.map a.eval).toArray:=wo;have e2:caps.map a.eval=(caps.toList.map a.eval).toArray:=wo;simp only[Instr.makeFunc,e1,e2];rfl
 ·intro kx aS;obtain⟨x,_,h⟩:=jK.1 aS;exact gn st x kx h
def SY(c:C)(f:FuncId)(us ws:List AV):Prop:=(c= .V (.func (.func f) ⟨[]⟩ ⟨[]⟩)∧us=[]∧ws=[])∨∃fs cs,c= .M (Fi f fs cs)∧wZ fs=some us∧wZ cs=some ws
def aap{n new:Nat}{ops:Array Oper}{i:Nat}{o:Oper}(ho:ops[i]? =some o)(hg:o.guard=none){d:Nat}(hd:o.dst=some d)(aV:d<n){f:FuncId}{vs:List AV}{r:AV}(hf:aG P f vs r)
  {F:de} (gk:F.n=n) {Q:Exit→Act→World→Prop} {known:Nat→Prop} {σ:Kn} {g:Gh} {W:World} {a:Act} {K:Act→World→Prop} (dX:¬known new) (aJ:bJ F known σ g W a) (hK:∀g' W' a',bJ F (λid=>known id∨id=new) (dI σ [(.s d,some (.v r))]) g' W' a'→K a' W') {us:List Value} (jc:jt ⟨g.H,jd⟩ vs us) (hex:(execOp a.eval o).run P W= .ok (.enter f us.toArray) W):wpOp P ops Q i K a W:=by
 have hc:=hf.spec g.H W us aJ.sub jc
 unfold wpOp
 simp only[ho,Region.wanted,hg,cP]
 refine .inl ?_
 unfold Oper.wp
 rw[hex]
 simp only[Oper.upon]
 refine hc.mono ?_
 rintro e W' ⟨v,H',rfl,bW,hle,lR,eL,eN⟩
 simp only[hd]
 have cR:d<a.tmps.size:=rA
 refine hK ⟨H',g.γ⟩ W' _ (aJ.step (chg:=λ_=>False) (g':=⟨H',g.γ⟩) ⟨⟨hle,λ_ _=>rfl⟩,lR,eL,eN.size,λk hk _=>eN.block k hk,eN.os,eN.tape,eN.output⟩ _ new dX sC aJ.defers ?_ (λ_ h=>h.elim) ?_ ?_ ?_ ?_)
 ·intro t ht;have aR:d≠t:=tL;simp[Act.put,nT aR]
 ·intro t u ht;simp only[bc]at ht;split at ht
  ·rename_i e;simp only[Key.s.injEq]at e;simp only[aO,Info.v.injEq]at ht;subst e;subst ht;have:=bW.il hf.il (cF.refl _) g.γ;simpa[Act.put,cR]using this
  ·simp at ht
 ·intro id b ht;simp[bc]at ht
 ·intro k y ht;simp only[bc]at ht;split at ht
  ·simp only[aO]at ht;subst ht;intro id al;have:id∈r.aD:=al;rw[hf.il]at this;cases this
  ·simp at ht
 ·intro id y ht;simp[bc]at ht
def aaq{n new:Nat}{ops:Array Oper}{i:Nat}{o:Oper}(ho:ops[i]? =some o)(hg:o.guard=none){d:Nat}(hd:o.dst=some d)(aV:d<n){cf:Operand}{args:Array Operand}{dn:Array TypeId}(ck:o.op= .call ⟨.value cf,args,dn⟩)
  {st:St} {c:C} {f:FuncId} {us ws vs:List AV} {r:AV} (yA:st.ev cf=some (.c c)) (ID:SY c f us ws) (hv:kH st args.toList=some vs) (hm:fN (us++(vs++ws))=[]) (hf:aG P f (us++(vs++ws)) r):ll P n ops i st (st.put d r) new (cH (cf::args.toList),[.s d]):=by
 refine⟨(cf::args.toList).flatMap (dU st),[(.s d,some (.v r))],?_,?_,n6 st d r,fX st _,λk hk=>by simpa[fi]using hk⟩
 ·intro F gk Q known σ g W a K dX aJ bw hK;have kE:=z7 aJ st _ _ hv (λkx aS=>bw kx (by simp only[gN,b6];exact .inr aS));have z6:=gI aJ st cf _ yA (λkx aS=>bw kx (by simp only[gN,b6];exact .inl aS));have mE:args.map a.eval=(args.toList.map a.eval).toArray:=wo;have mJ:fN us=[]∧fN vs=[]∧fN ws=[]:=by rw[Yr,Yr,Gx,Gx]at hm;exact hm
  rcases ID with⟨rfl,rfl,rfl⟩|⟨fs,cs,rfl,h1,h2⟩
  ·have z6:a.eval cf= .func (.func f) #[] #[]:=z6;refine aap ho hg hd aV hf gk dX aJ hK (us:=args.toList.map a.eval) ?_ ?_
   ·simpa using kE.il (γ:=jd) mJ.2.1
   ·rw[execOp,ck];simp only[resolve,z6,Deferred.ofValue,pure_bind,Q4 hf.call,mE];simp
  ·obtain⟨H0,fu,fw,hle,vn,n5,qu⟩:=z6;have k1:=Lx h1 n5;have k2:=Lx h2 qu;have up:∀{xs:List AV}{zs:List Value},jt ⟨H0,jd⟩ xs zs→fN xs=[]→jt ⟨g.H,jd⟩ xs zs:=by
    intro xs;induction xs with
    |nil=>intro zs h _;exact h
    |cons x xs ih=>
     intro zs h hm
     simp only[fN,Gx]at hm
     obtain⟨v,r,rfl,h1,h2⟩:=h
     exact⟨v,r,ae,h1.il hm.1 hle jd,ih h2 hm.2⟩
   refine aap ho hg hd aV hf gk dX aJ hK (us:=fu++(args.toList.map a.eval++fw)) ?_ ?_
   ·exact(up k1 mJ.1).append ((kE.il (γ:=jd) mJ.2.1).append (up k2 mJ.2.2))
   ·rw[execOp,ck];simp only[resolve,vn,Deferred.ofValue,pure_bind,Q4 hf.call,mE];simp
 ·intro kx aS;obtain⟨x,_,h⟩:=jK.1 aS;exact gn st x kx h
def alb{n new:Nat}{ops:Array Oper}{i:Nat}{o:Oper}(ho:ops[i]? =some o)(hg:o.guard=none){d:Nat}(hd:o.dst=some d)(aV:d<n){f:FuncId}{args:Array Operand}{dn:Array TypeId}(ck:o.op= .call ⟨.value (.func f),args,dn⟩)
  {st:St} {vs Eo:List AV} {r:AV} {ids:List Nat} (hv:kH st args.toList=some vs) (hf:aG P f Eo r) (hr:∀g g' v,bP g r v→bP g' r v)
  (hfz:∀(F:de)(known:Nat→Prop)(σ:Kn)(g:Gh)(W:World)(a:Act)(us:List Value),bJ F known σ g W a→(∀kx∈g7 st ids,σ kx.1=some kx.2)→jt g vs us→∃HF,Sub HF W∧jt ⟨HF,jd⟩ Eo us):
  ll P n ops i st (st.put d r) new (cH args.toList++fB ids,[.s d]):=by
 refine⟨args.toList.flatMap (dU st)++g7 st ids,[(.s d,some (.v r))],?_,?_,n6 st d r,?_,λk hk=>by simpa[fi]using hk⟩
 ·intro F gk Q known σ g W a K dX aJ bw hK;have kE:=z7 aJ st _ _ hv (λkx aS=>bw kx (fS _ aS));obtain⟨HF,alc,ald⟩:=hfz F known σ g W a _ aJ (λkx aS=>bw kx (j9 _ aS)) kE;have hc:=hf.spec HF W _ alc ald;have mE:args.map a.eval=(args.toList.map a.eval).toArray:=wo;have hex:(execOp a.eval o).run P W= .ok (.enter f (args.toList.map a.eval).toArray) W:=by
   have cy:=hf.call;unfold mD at cy;rw[execOp,ck];cases iB:P.funcs[f]? with
   |none=>rw[iB]at cy;simp at cy
   |some fn=>
    rw[iB]at cy
    simp only[eX,bne_iff_ne,ne_eq]at cy
    have h2:fn.body≠none:=by intro hb;rw[hb]at cy;simp at cy
    simp[resolve,Act.eval,Deferred.ofValue,invoke,callFunc,iB,cy.1,h2]
    exact mE
  unfold wpOp;simp only[ho,Region.wanted,hg,cP];refine .inl ?_;unfold Oper.wp;rw[hex];simp only[Oper.upon];refine hc.mono ?_;rintro e W' ⟨v,H',rfl,bW,hle,lR,eL,eN⟩;simp only[hd];have cR:d<a.tmps.size:=rA;have ale:Sub g.H W':=by
   intro b o v hv;have h0:=aJ.sub b o v hv;have br:b<W.heap.size:=by
    simp only[World.cell?]at h0;cases hb:W.heap[b]? with
    |none=>rw[hb]at h0;cases h0
    |some x=>exact(jU.1 hb).1
   simp only[World.cell?,eN.block b br];exact h0
  refine hK g W' _ (aJ.step (chg:=λ_=>False) (g':=g) ⟨⟨cF.refl _,λ_ _=>rfl⟩,λ_ _ _=>rfl,ale,eN.size,λk hk _=>eN.block k hk,eN.os,eN.tape,eN.output⟩ _ new dX sC aJ.defers ?_ (λ_ h=>h.elim) ?_ ?_ ?_ ?_)
  ·intro t ht;have aR:d≠t:=tL;simp[Act.put,nT aR]
  ·intro t u ht;simp only[bc]at ht;split at ht
   ·rename_i e;simp only[Key.s.injEq]at e;simp only[aO,Info.v.injEq]at ht;subst e;subst ht;have:=hr _ g _ bW;simpa[Act.put,cR]using this
   ·simp at ht
  ·intro id b ht;simp[bc]at ht
  ·intro k y ht;simp only[bc]at ht;split at ht
   ·simp only[aO]at ht;subst ht;intro id al;have:id∈r.aD:=al;rw[hf.il]at this;cases this
   ·simp at ht
  ·intro id y ht;simp[bc]at ht
 ·intro kx aS;rcases b6.1 aS with aS|aS
  ·obtain⟨x,_,h⟩:=jK.1 aS;exact gn st x kx h
  ·exact rQ st ids kx aS
 ·intro k hk;simp only[dT,eh,b6]at hk;rcases hk with h|h
  ·exact fS _ (fX st _ k h)
  ·exact j9 _ (qC st ids k h)
end
def IE(l:List (Nat×AV))(id:Nat)(T:ET)(x:T.den):List (Nat×AV)→Prop
 |[]=>True
 | (t,v')::r=>((∃v,ao t l=some v∧au v v')∨∃off,ao t l=some (.c (.P id off))∧v'= .c (.E T x off))∧IE l id T x r
def IE.get{l:List (Nat×AV)}{id:Nat}{T:ET}{x:T.den}:∀{m:List (Nat×AV)},IE l id T x m→∀{t v'},ao t m=some v'→(∃v,ao t l=some v∧au v v')∨∃off,ao t l=some (.c (.P id off))∧v'= .c (.E T x off)
 |[],_,_,_,h=>by simp[ao]at h
 | (k,x)::m,hw,t,v',h=>by
  simp only[ao]at h;split at h
  ·rename_i e;subst e;cases h;exact hw.1
  ·exact IE.get hw.2 h
def alf(id:Nat){E:TypeId}{bz:Nat}{T:ET}{x:T.den}{sl sl':List (Nat×AV)}{mem mem':List (Nat×aK)}{nx nx':Nat}{gd gd':List (Nat×Bool)}(hl:ao id mem=some (.box E bz (av T x)))(hs:IE sl id T x sl')(hm:iQ mem mem')(dY:ao id mem'=none)
  (uz:eQ (1000000*nx') mem') (qW:sY (1000000*nx') sl'=true:=by rfl) (fe:Nat.ble 1 nx'=true:=by rfl):Wk ⟨sl,mem,nx,gd⟩ ⟨sl',mem',nx',gd'⟩:=by
 generalize dh:(⟨sl,mem,nx,gd⟩:St)=st
 generalize MG:(⟨sl',mem',nx',gd'⟩:St)=st'
 obtain rfl:sl=st.sl:=Ba
 obtain rfl:mem=st.mem:=Ba
 obtain rfl:sl'=st'.sl:=by rw[←MG]
 obtain rfl:mem'=st'.mem:=by rw[←MG]
 obtain rfl:nx'=st'.nx:=by rw[←MG]
 clear dh MG
 intro F gV g W a h
 have yf:∀id,id<F.k0→kb st' id∧g.γ id=F.γ0 id:=by intro id al;obtain⟨h1,h2⟩:=h.iz id al;refine⟨?_,h2⟩;have h1:id<1000000*st.nx:=h1;show id<1000000*st'.nx;have:=cY fe;omega
 have al:st.kn (.m id)=some (.b (.box E bz (av T x))):=by simp[St.kn,hl]
 obtain⟨b,vs,rest,hγ,hh,hr,hN,hz,_⟩:=h.df id _ al
 let H':FH:=λb' o=>if b'=b then(vs++rest)[o]? else g.H b' o
 let g':Gh:=⟨H',g.γ⟩
 have ud:cF g.H H':=by
  intro b' o v hv;by_cases e:b'=b
  ·subst e;rw[hz]at hv;cases hv
  ·simp[H',e,hv]
 have hle:iL (λ_=>True) g g':=⟨ud,λ_ _=>rfl⟩
 have hd:dm H' T x vs:=dm.mono ud T x vs (zK T x vs hr)
 have hH:∀k o,k≠b→H' k o=g.H k o:=λk o hk=>by simp[H',hk]
 have hS:∀t v',st'.kn (.s t)=some (.v v')→((∃v,st.kn (.s t)=some (.v v)∧au v v')∨∃off,st.kn (.s t)=some (.v (.c (.P id off)))∧v'= .c (.E T x off))∧∀id∈v'.aD,id<1000000*st'.nx:=by
  intro t v' e;simp only[St.kn,ct]at e;obtain⟨y,hy,he⟩:=e;cases he;refine⟨?_,z9 qW t v' hy⟩;rcases hs.get hy with⟨v,hv,hle⟩|⟨off,hv,e⟩
  ·exact .inl ⟨v,by simp[St.kn,hv],hle⟩
  ·exact .inr ⟨off,by simp[St.kn,hv],e⟩
 have hM:∀j b',st'.kn (.m j)=some (.b b')→(∃b,st.kn (.m j)=some (.b b)∧di b b')∧(j<1000000*st'.nx∧∀i∈b'.aD,i<1000000*st'.nx)∧j≠id:=by intro t v' e;simp only[St.kn,ct]at e;obtain⟨y,hy,he⟩:=e;cases he;obtain⟨v,hv,hle⟩:=hm.get hy;exact⟨⟨v,by simp[St.kn,hv],hle⟩,uz t v' hy,λe=>by subst e;rw[dY]at hy;cases hy⟩
 refine⟨g',h.size,h.defers,?_,?_,?_,?_,?_,?_,h.below,h.le.trans ud,?_,yf⟩
 ·intro t v' e;rcases(hS t v' e).1 with⟨v,hv,IF⟩|⟨off,hv,rfl⟩
  ·exact IF.1 _ _ (bP.mono hle (λ_ _=>trivial) (h.gG t v hv))
  ·obtain⟨b',e1,e2⟩:dt g (.P id off) (a.tmps.getD t undef):=h.gG t _ hv;rw[hγ]at e1;cases e1;refine⟨b,0,vs,by rw[e2];simp,hd,λj hj=>?_⟩;simp only[g',H',cP,eZ];rw[Gt hj];exact cr hj
 ·intro j b' e;obtain⟨⟨c,hc,eN⟩,_,aR⟩:=hM j b' e;refine eN.1 _ _ _ _ ((h.df j c hc).Ey hle ah (λ_ _=>trivial) (λk hk=>⟨ae,λo=>?_⟩));have Q5:k≠b:=λe=>aR (by subst e;exact h.inj j id c _ k hc al hk hγ)
  exact hH k o Q5
 ·intro i j b1 b2 k e e' hk dx;obtain⟨⟨c,hc,_⟩,_⟩:=hM i b1 e;obtain⟨⟨c',pI,_⟩,_⟩:=hM j b2 e';exact h.inj i j c c' k hc pI hk dx
 ·intro k y e i hi;cases k with
  |s t=>
   cases y with
   |v v'=>exact(hS t v' e).2 i hi
   |b b'=>simp only[St.kn,ct]at e;obtain⟨_,_,he⟩:=e;cases he
  |m j=>
   cases y with
   |v v'=>simp only[St.kn,ct]at e;obtain⟨_,_,he⟩:=e;cases he
   |b b'=>exact(hM j b' e).2.1.2 i hi
 ·intro j y e;cases y with
  |v v'=>simp only[St.kn,ct]at e;obtain⟨_,_,he⟩:=e;cases he
  |b b'=>exact(hM j b' e).2.1.1
 ·intro b' o v hv;by_cases e:b'=b
  ·subst e;simp only[g',H',cP]at hv;simp[World.cell?,hh,hv]
  ·simp only[g',H',e,cV]at hv;exact h.sub b' o v hv
 ·intro b' o du aas;have:b'≠b:=by
   intro e;subst e;rcases hN with h1|h1
   ·omega
   ·exact aas h1
  show H' b' o=_;rw[hH b' o this];exact h.fresh b' o du aas
def IG(g:Gh)(fm:List (Nat×aK))(b:Nat):Prop:=∃id bb,ao id fm=some bb∧cQ (g.γ id)=some b
def alg(g:Gh)(W:World)(fm:List (Nat×aK))(r:AV)(e:Ending)(W':World):Prop:=
 ∃v H',e= .returned v∧bP ⟨H',jd⟩ r v∧cF g.H H'∧(∀b o,b<W.heap.size→¬IG g fm b→H' b o=g.H b o)∧Sub H' W'∧DW (IG g fm) W W'
structure Fj(P:Program)(f:FuncId)(args:List AV)(fm:List (Nat×aK))(r:AV):Prop where
 call:mD P f=true
 il:r.aD=[]
 spec:∀g W vs,Sub g.H W→jt g args vs→(∀id b,ao id fm=some b→jn (λ_=>True) g W id b)→(∀id b9 b b' k,ao id fm=some b→ao b9 fm=some b'→cQ (g.γ id)=some k→cQ (g.γ b9)=some k→id=b9)→Calls P f vs.toArray W (alg g W fm r)
def aat(P:Program)(fn:Func)(r:AV):fG:=λF e a W=>bodyPost P fn (λe W'=>∃v H',e= .returned v∧bP ⟨H',jd⟩ r v∧cF F.H0 H'∧(∀b o,b<F.w0.heap.size→¬F.own b→H' b o=F.H0 b o)∧Sub H' W'∧DW F.own F.w0 W') e a W
section
variable{P:Program}{tt:TT}{n:Nat}{st:St}
def SZ(aT:cM P tt=true){fn:Func}{rs:List ResultVar}{r' r:AV}(hr:ua tt st rs=some r')(hle:au r' r)(fM:fn.results=rs.toArray:=by rfl)(hm:r.aD=[]:=by rfl):gq n .ret st (aat P fn r):=by intro F hF g W a h;obtain⟨u,hu,bW⟩:=BQ aT h fM hr;exact⟨h.defers.trans hF.ds,u,hu,u,g.H,ae,(hle.1 _ _ bW).il hm (cF.refl _) jd,h.le,h.fresh,h.sub,h.below⟩
def aau{f:FuncId}{fn:Func}{c:Code}{args:List AV}{fm:List (Nat×aK)}{r:AV}(MH:Nat)(hf:P.funcs[f]? =some fn)(hb:fn.body=some c)(hN:fn.ntmps=n)(hle:Nat.ble args.length n=true)(mE:∀id∈fN args,id<1000000*MH)(pN:eQ (1000000*MH) fm)(BR:r.aD=[])(s8:(fn.name != "runtime.NumGoroutine")=true)
  (h:TR P n c ⟨ls 0 args,fm,MH,[]⟩ (aat P fn r)):Fj P f args fm r:=by
 refine⟨by simp[mD,hf,hb,s8],BR,?_⟩
 intro g W vs eL bW jO IA
 refine calls_of_wp hf hb ?_
 have hlen:=z' bW
 have hle:=cY hle
 have iA:∀id b,St.kn ⟨ls 0 args,fm,MH,[]⟩ (.m id)=some (.b b)→ao id fm=some b:=by intro id b e;simp only[St.kn,ct]at e;obtain⟨x,hx,he⟩:=e;cases he;exact hx
 let F:de:={w0:=W,H0:=g.H,n:=n,own:=IG g fm,k0:=0}
 refine wp_mono (h F ⟨ae,bK _,ae,ae⟩ g W _ ⟨?_,ae,?_,?_,?_,?_,?_,eL,⟨ae,ae,ae,bD _,λ_ _ _=>rfl⟩,cF.refl _,λ_ _ _ _=>rfl,λ_ h=>absurd h (zA _)⟩) (λe a W' hq=>hq)
 ·simp[hN,F];omega
 ·intro t v ht;simp only[St.kn,ct]at ht;obtain⟨x,hx,he⟩:=ht;cases he;obtain⟨_,u,hu,hr,_⟩:=pK args vs 0 bW t v hx;have jm:vs[t]? =some u:=Ds;have br:t<vs.length:=(wA.1 jm).1;have:(vs.toArray++Array.replicate (fn.ntmps-vs.toArray.size) undef).getD t undef=u:=by rw[wy,Bd Gn];simp[jm]
  rw[this];exact hr
 ·intro id b e;have e':=iA id b e;exact(jO id b e').Ex (λk hk=> .inr ⟨id,b,e',hk⟩) ae ae ⟨cF.refl _,λ_ _=>rfl⟩
 ·intro id b9 b b' k e e' h1 h2;exact IA id b9 b b' k (iA id b e) (iA b9 b' e') h1 h2
 ·intro k x e id al;cases k with
  |m j=>
   cases x with
   |v y=>simp only[St.kn,ct]at e;obtain⟨_,_,he⟩:=e;cases he
   |b b=>exact(pN j b (iA j b e)).2 id al
  |s t=>
   simp only[St.kn,ct]at e
   obtain⟨y,hy,he⟩:=e
   subst he
   obtain⟨_,u,_,_,h6⟩:=pK args vs 0 bW t y hy
   exact mE id (h6 id al)
 ·intro id x e;cases x with
  |v y=>simp only[St.kn,ct]at e;obtain⟨_,_,he⟩:=e;cases he
  |b b=>exact(pN id b (iA id b e)).1
def MI{α:Type}{id:Nat}{b:α}:∀{l:List (Nat×α)},ao id l=some b→id∈l.map (·.1)
 |[],h=>by simp[ao]at h
 | (j,x)::l,h=>by
  simp only[ao]at h;split at h
  ·rename_i e;simp[e]
  ·exact wB _ (MI h)
def aav{α:Type}{id:Nat}:∀{l:List (Nat×α)},id∈l.map (·.1)→∃b,ao id l=some b
 |[],h=>by cases h
 | (j,x)::l,h=>by
  simp only[ao];split
  ·exact⟨x,ae⟩
  ·rename_i e;rcases dC.1 h with h|h
   ·exact absurd h.symm e
   ·exact aav h
def CE(l:List Nat):∀k,bc (l.map λid=>((.m id:Key),(none:Option Info))) k=(match k with| .m id=>if id∈l then some none else none| .s _=>none):=by
 induction l with
 |nil=>intro k;cases k<;>simp[bc]
 |cons x l ih=>
  intro k
  simp only[jL,bc]
  cases k with
  |s t=>simp[ih]
  |m id=>
   by_cases e:x=id
   ·subst e;simp
   ·simp only[Key.m.injEq,e,cV,ih,dC];have:¬id=x:=λh=>e h.symm
    simp[this]
def alh{n new:Nat}{ops:Array Oper}{i:Nat}{o:Oper}(ho:ops[i]? =some o)(hg:o.guard=none){d:Nat}(hd:o.dst=some d)(aV:d<n){f:FuncId}{args:Array Operand}{dn:Array TypeId}(ck:o.op= .call ⟨.value (.func f),args,dn⟩)
  {sl:List (Nat×AV)} {conc fm:List (Nat×aK)} {nx:Nat} {gd:List (Nat×Bool)} {vs:List AV} {r:AV} (hv:kH ⟨sl,conc++fm,nx,gd⟩ args.toList=some vs) (hf:Fj P f vs fm r) (MJ:∀id b,ao id fm=some b→ao id conc=none):
  ll P n ops i ⟨sl,conc++fm,nx,gd⟩ ⟨(d,r)::sl,conc,nx,gd⟩ new (cH args.toList++fB (fm.map (·.1)),.s d::(fm.map (·.1)).map .m):=by
 have ali:∀id b,ao id fm=some b→ao id (conc++fm)=some b:=λid b hb=>by rw[yR,MJ id b hb,hb];rfl
 refine⟨args.toList.flatMap (dU ⟨sl,conc++fm,nx,gd⟩)++g7 ⟨sl,conc++fm,nx,gd⟩ (fm.map (·.1)),(.s d,some (.v r))::(fm.map (·.1)).map (λid=>(.m id,none)),?_,?_,?_,?_,?_⟩
 ·intro F gk Q known σ g W a K dX aJ bw hK;have kE:=z7 aJ _ _ _ hv (λkx aS=>bw kx (fS _ aS));have pN:=Yj (st:=⟨sl,conc++fm,nx,gd⟩) (ids:=fm.map (·.1)) (σ:=σ) (λkx aS=>bw kx (j9 _ aS));have hσ:∀id b,ao id fm=some b→σ (.m id)=some (.b b):=λid b hb=>pN id (MI hb) b (ali id b hb)
  have hc:=hf.spec g W _ aJ.sub kE (λid b hb=>(aJ.df id b (hσ id b hb)).Ex (λ_ _=>trivial) ae ae ⟨cF.refl _,λ_ _=>rfl⟩) (λid b9 b b' k h1 h2 h3 h4=>aJ.inj id b9 b b' k (hσ id b h1) (hσ b9 b' h2) h3 h4);unfold wpOp;simp only[ho,Region.wanted,hg,cP];refine .inl ?_;unfold Oper.wp;have mE:args.map a.eval=(args.toList.map a.eval).toArray:=wo;have hex:(execOp a.eval o).run P W= .ok (.enter f (args.toList.map a.eval).toArray) W:=by
   have cy:=hf.call;unfold mD at cy;rw[execOp,ck];cases iB:P.funcs[f]? with
   |none=>rw[iB]at cy;simp at cy
   |some fn=>
    rw[iB]at cy
    simp only[eX,bne_iff_ne,ne_eq]at cy
    have h2:fn.body≠none:=by intro hb;rw[hb]at cy;simp at cy
    simp[resolve,Act.eval,Deferred.ofValue,invoke,callFunc,iB,cy.1,h2]
    exact mE
  rw[hex];simp only[Oper.upon];refine hc.mono ?_;rintro e W' ⟨v,H',rfl,bW,hle,lR,eL,eN⟩;simp only[hd];have cR:d<a.tmps.size:=rA;have oO:iL (λ_=>True) g ⟨H',g.γ⟩:=⟨hle,λ_ _=>rfl⟩;have hN:∀b,IG g fm b→F.N b:=by rintro b ⟨id,bb,h1,h2⟩;exact((aJ.df id bb (hσ id bb h1)).block h2).1
  have hM:∀j b,dI σ ((.s d,some (.v r))::(fm.map (·.1)).map (λid=>(.m id,none))) (.m j)=some (.b b)→σ (.m j)=some (.b b)∧∀k,cQ (g.γ j)=some k→¬IG g fm k:=by
   intro j b hb;simp only[dI,bc,reduceCtorEq,cV,CE]at hb;by_cases e:j∈fm.map (·.1)
   ·rw[aw e]at hb;cases hb
   ·rw[aq e]at hb;refine⟨hb,λk hk=>?_⟩;rintro⟨id,bb,h1,h2⟩;have:=aJ.inj j id b bb k hb (hσ id bb h1) hk h2;subst this;exact e (MI h1)
  refine hK ⟨H',g.γ⟩ W' _ ⟨by simp[Act.put,aJ.size],aJ.defers,?_,?_,?_,?_,?_,eL,?_,aJ.le.trans hle,?_,λid al=>⟨.inl (aJ.iz id al).1,(aJ.iz id al).2⟩⟩
  ·intro t u ht;simp only[dI,bc,CE]at ht;by_cases e:d=t
   ·subst e;simp only[cP,aO,Info.v.injEq]at ht;subst ht;have:=bW.il hf.il (cF.refl _) g.γ;simpa[Act.put,cR]using this
   ·have e':¬(Key.s d=Key.s t):=λh=>e cq
    simp only[e',cV]at ht;have hv:(a.put (some d) v).tmps.getD t undef=a.tmps.getD t undef:=by simp[Act.put,nT e]
    rw[hv];exact bP.mono oO (λ_ _=>trivial) (aJ.gG t u ht)
  ·intro j b hb;obtain⟨h1,h2⟩:=hM j b hb;have jO:=aJ.df j b h1;refine jO.Ey oO ah (λ_ _=>trivial) (λk hk=>?_);have br:=(jO.block hk).2;exact⟨eN.block k br (h2 k hk),λo=>lR k o br (h2 k hk)⟩
  ·intro j j' b b' k hb du h1 h2;exact aJ.inj j j' b b' k (hM j b hb).1 (hM j' b' du).1 h1 h2
  ·intro k x hx id al;cases k with
   |s t=>
    simp only[dI,bc,CE]at hx
    by_cases e:d=t
    ·subst e;simp only[cP,aO]at hx;subst hx;have:id∈r.aD:=al;rw[hf.il]at this;cases this
    ·have e':¬(Key.s d=Key.s t):=λh=>e cq
     simp only[e',cV]at hx;exact .inl (aJ.aD _ _ hx id al)
   |m j=>
    simp only[dI,bc,reduceCtorEq,cV,CE]at hx
    by_cases e:j∈fm.map (·.1)
    ·rw[aw e]at hx;cases hx
    ·rw[aq e]at hx;exact .inl (aJ.aD _ _ hx id al)
  ·intro j x hx;simp only[dI,bc,reduceCtorEq,cV,CE]at hx;by_cases e:j∈fm.map (·.1)
   ·rw[aw e]at hx;cases hx
   ·rw[aq e]at hx;exact .inl (aJ.fF _ _ hx)
  ·refine⟨eN.os.trans aJ.below.os,eN.tape.trans aJ.below.tape,eN.output.trans aJ.below.output,dF aJ.below.size eN.size,λk hk dY=>?_⟩;have br:k<W.heap.size:=kv hk aJ.below.size;rw[←aJ.below.block k hk dY];refine eN.block k br (λho=>?_);rcases hN k ho with h1|h1
   ·omega
   ·exact dY h1
  ·intro k o hk dY;have br:k<W.heap.size:=kv hk aJ.below.size;show H' k o=_;rw[lR k o br (λho=>?_)]
   ·exact aJ.fresh k o hk dY
   ·rcases hN k ho with h1|h1
    ·omega
    ·exact dY h1
 ·intro kx aS;rcases b6.1 aS with aS|aS
  ·obtain⟨x,_,h⟩:=jK.1 aS;exact gn _ x kx h
  ·exact rQ _ _ kx aS
 ·funext k;cases k with
  |s t=>
   simp only[dI,bc,CE,St.kn,ao]
   by_cases e:d=t
   ·simp[e]
   ·have e':¬(Key.s d=Key.s t):=λh=>e cq
    simp[e,e']
  |m j=>
   simp only[dI,bc,reduceCtorEq,cV,CE,St.kn]
   by_cases e:j∈fm.map (·.1)
   ·rw[aw e];obtain⟨b,hb⟩:=aav e;simp[MJ j b hb]
   ·rw[aq e];show _=Option.map Info.b (ao j (conc++fm));rw[yR];cases h1:ao j fm with
    |some b=>exact absurd (MI h1) e
    |none=>rw[Option.or_none]
 ·intro k hk;simp only[dT,eh,b6]at hk;rcases hk with h|h
  ·exact fS _ (fX _ _ k h)
  ·exact j9 _ (qC _ _ k h)
 ·intro k hk;simp only[fi,jL,dC,List.map_map]at hk;rcases hk with h|h
  ·exact dC.2 (.inl h)
  ·refine dC.2 (.inr ?_);simpa[Function.comp]using h
end
end Go.El
namespace Go.El
open Go Go.RowKit Go.Proofs
def fg(o:Nat)(E0:TypeId)(r:Nat)(E:TypeId)(T:ET)(f:Nat→List T.den):List (Nat×aK):=(o,.box E0 0 ((List.range r).map λi=> .X (1+i)))::gA r E T f
def bH{α:Type}{k t:Nat}{x:α}{l:List (Nat×α)}(h:k≠t):ao t ((k,x)::l)=ao t l:=by simp only[ao,aq h]
def CF{α:Type}{t:Nat}{x:α}{l:List (Nat×α)}:ao t ((t,x)::l)=some x:=by simp only[ao,aw]
def S1{K o:Nat}{E0:TypeId}{r:Nat}{E:TypeId}{T:ET}{f:Nat→List T.den}(ho:o<K)(hr:1+r≤K):nC K (fg o E0 r E T f)=true:=by simp only[fg,nC,aK.aD,eX];refine⟨⟨WG ho,aam λc hc id al=>?_⟩,ak8 hr⟩;obtain⟨i,hi,rfl⟩:=nW.1 hc;have:=k7.1 hi;simp only[C.aD,jJ]at al;omega
def iD{st:St}{sl':List (Nat×AV)}{conc:List (Nat×aK)}{nx':Nat}{gd':List (Nat×Bool)}{o:Nat}{E0:TypeId}{r:Nat}{E:TypeId}{T:ET}{f:Nat→List T.den}(hs:ye st.sl sl')(hm:iQ st.mem conc)
  (Fk:ao o st.mem=some (.box E0 0 ((List.range r).map λi=> .X (1+i)))) (hf:∀i,i<r→ao (1+i) st.mem=some (.vec E T (f i))) (hr:r≤900) (hb:(sY (1000000*nx') sl'&&nC (1000000*nx') conc&&Nat.ble 1 nx'&&Nat.blt o (1000000*nx'))=true:=by rfl):Wk st ⟨sl',conc++fg o E0 r E T f,nx',gd'⟩:=by
 simp only[eX]at hb
 obtain⟨⟨⟨h1,h2⟩,h3⟩,h4⟩:=hb
 have rI:o<1000000*nx':=cY h4
 have wL:=cY h3
 refine wk hs (iQ.app hm ⟨⟨_,Fk,di.refl _⟩,iQ.gA hf⟩) ?_
 simp only[eX,zz]
 exact⟨⟨h1,SU h2 (S1 rI af)⟩,.inl h3⟩
def S2(id:Nat)(T:ET)(xs:List T.den):∀a b:List (Nat×aK),m8 id T xs (a++b)=m8 id T xs a++m8 id T xs b
 |[],_=>rfl
 | (j,x)::a,b=>by
  simp only[mX,m8];split
  ·exact S2 id T xs a b
  ·rw[S2 id T xs a b];rfl
def aaw{id:Nat}{T:ET}{xs:List T.den}:∀{L:List Nat},(∀i∈L,1+i≠id)→yk id T xs (L.map λi=>C.X (1+i))=L.map λi=>C.X (1+i)
 |[],_=>rfl
 |i::L,h=>by simp only[jL,yk,yj];rw[aq (h i be),aaw λj hj=>h j (by simp[hj])]
def aax{id:Nat}{T':ET}{xs:List T'.den}{E:TypeId}{T:ET}{f:Nat→List T.den}:∀{L:List Nat},(∀i∈L,1+i≠id)→m8 id T' xs (L.map λi=>(1+i,aK.vec E T (f i)))=L.map λi=>(1+i,aK.vec E T (f i))
 |[],_=>rfl
 |i::L,h=>by simp only[jL,m8,Hs];rw[aq (h i be),aax λj hj=>h j (by simp[hj])]
def alj{id:Nat}{T':ET}{xs:List T'.den}{o:Nat}{E0:TypeId}{r:Nat}{E:TypeId}{T:ET}{f:Nat→List T.den}(ho:o≠id)(al:1000≤id)(hr:r≤900):m8 id T' xs (fg o E0 r E T f)=fg o E0 r E T f:=by
 have aR:∀i∈List.range r,1+i≠id:=λi hi=>by have:=k7.1 hi;omega
 unfold fg gA;simp only[m8,aq ho,Hs];rw[aaw aR,aax aR]
section
variable{n:Nat}{Q:fG}
def IH(id:Nat){E1:TypeId}{T1:ET}{xs:List T1.den}{c:Code}{sl:List (Nat×AV)}{conc:List (Nat×aK)}{nx:Nat}{gd:List (Nat×Bool)}{o:Nat}{E0:TypeId}{r:Nat}{E:TypeId}{T:ET}{f:Nat→List T.den}(hl:ao id (conc++fg o E0 r E T f)=some (.vec E1 T1 xs)){sl':List (Nat×AV)}{aay:List (Nat×aK)}(hs:wX id T1 xs sl=sl')(hm:m8 id T1 xs conc=aay)(hr:r≤900)
  (h:TR Tryz.prog n c ⟨sl',aay++fg o E0 r E T f,nx,gd⟩ Q) (ho:(Nat.ble 1000 id&& !Nat.beq o id)=true:=by rfl):TR Tryz.prog n c ⟨sl,conc++fg o E0 r E T f,nx,gd⟩ Q:=by
 simp only[eX,KB]at ho
 have h1:=cY ho.1
 have h2:o≠id:=λe=>by rw[e,PJ]at ho;cases ho.2
 refine fY id hl hs ae ?_
 rw[S2,hm,alj h2 h1 hr]
 exact h
end
section
variable{n:Nat}{sl sl':List (Nat×AV)}{mem mem':List (Nat×aK)}{nx:Nat}{gd gd':List (Nat×Bool)}{ops:Array Oper}{draw:Bool}{p:Pr}{ks cp:List Ks}{i i' n0 cd:Nat}{os cG:List Oper}{d:Nat}{ty:TypeId}{pos:String}{cJ:Array Edge}{R:St→Prop}
def rk(k:Nat){o:Oper}(h:runs eC n nx draw ops.toList (os.take k) i ⟨sl,mem,n0,gd⟩ .t ks=([],i',⟨sl',mem',cd,gd'⟩,p,cp))(SP:os.drop k=o::cG)(hk:RG Tryz.prog n ops draw nx i' (o::cG) ⟨sl',mem',cd,gd'⟩ cp R)
  (hp:p:=by first|trivial| (simp only[Pr.an,Pr.h,num,aA,true_and,and_true];first|done|omega)):RG Tryz.prog n ops draw nx i os ⟨sl,mem,n0,gd⟩ ks R:=ak0 ar k h hp SP hk
def iV{op:Op}{x:AV}{pm:Pr}(h:runs eC n nx draw ops.toList os i ⟨sl,mem,n0,gd⟩ .t ks=(⟨some d,op,ty,pos,cJ,none⟩::cG,i',⟨sl',mem',cd,gd'⟩,p,cp))(he:Hy eC ⟨sl',mem',cd,gd'⟩ op=some (x,pm))(jM:pm)
  (hk:RG Tryz.prog n ops draw nx (i'+1) cG ⟨(d,x)::sl',mem',cd,gd'⟩ (fp draw cp (cH op.operands.toList,[.s d])) R)
  (hp:p:=by first|trivial| (simp only[Pr.an,Pr.h,num,aA,true_and,and_true];first|done|omega)) (aV:Nat.blt d n=true:=by rfl):RG Tryz.prog n ops draw nx i os ⟨sl,mem,n0,gd⟩ ks R:=
 jE ar h hp (ak3 ar he jM hk aV)
end
def S3(c:C):∀m,yn [c] m=List.replicate m c
 |0=>rfl
 |m+1=>by rw[yn,S3 c m];rfl
def alk{F:de}{known:Nat→Prop}{σ:Kn}{g:Gh}{W:World}{a:Act}(h:bJ F known σ g W a){o r:Nat}{E0:TypeId}{bz:Nat}{E:TypeId}{T:ET}{f:Nat→List T.den}(ho:σ (.m o)=some (.b (.box E0 bz ((List.range r).map λi=> .X (1+i)))))(hf:∀i,i<r→σ (.m (1+i))=some (.b (.vec E T (f i))))(hr:r≤140737488355328):
  ∃HF,cF g.H HF∧Sub HF W∧∀k len cap v,dt g (.L o k len (some cap)) v→k+len≤r→len≤cap→nt (dm HF (.sl T)) 1 HF ((List.range len).map λi=>f (k+i)) v:=by
 obtain⟨b,vs,rest,hγ,hh,kF,hN,hz,_⟩:=h.df o _ ho
 have jO:=λi(hi:i<r)=>h.df (1+i) (.vec E T (f i)) (hf i hi)
 let S:Nat→Prop:=λk=>k=b∨∃i,i<r∧cQ (g.γ (1+i))=some k
 have SV:∀k,S k→∀o,g.H k o=none:=by
  rintro k (rfl|⟨i,hi,hk⟩) o
  ·exact hz o
  ·rcases jO i hi with⟨e,_⟩|⟨b2,cap,us,e,_,_,_,_,_,_,wQ⟩
   ·rw[e]at hk;cases hk
   ·rw[e]at hk;simp only[cQ,aO]at hk;subst hk;exact wQ o
 classical
 let H':FH:=λk o=>if S k then W.cell? ⟨k,o,none⟩else g.H k o
 have hle:cF g.H H':=by
  intro k o v hv;by_cases e:S k
  ·rw[SV k e o]at hv;cases hv
  ·simp only[H',aq e];exact hv
 have kS:=kF.length
 simp only[dM,Bk]at kS
 refine⟨H',hle,?_,?_⟩
 ·intro k o v hv;by_cases e:S k
  ·simp only[H',aw e]at hv;exact hv
  ·simp only[H',aq e]at hv;exact h.sub k o v hv
 ·rintro k len cap v ⟨b',fy,Ai⟩ MK S4;rw[hγ]at fy;simp only[aO]at fy;subst fy;refine⟨some ⟨b,k,none⟩,cap,by rw[Ai];simp,by simpa using S4,by simp only[dM,Bk];omega,?_⟩;by_cases h0:len=0
  ·subst h0;exact .inl ae
  refine .inr ⟨b,k,ae,λi hi=>?_⟩;have pC:i<len:=by simpa using hi
  have Ca:k+i<r:=af;have wY:((List.range r).map λi=>C.X (1+i))[k+i]? =some (.X (1+(k+i))):=by simp[Ca]
  obtain⟨w,hw,zS⟩:=bU.get kF wY;have Fh:w=g.γ (1+(k+i)):=zS;refine⟨[w],ae,?_,?_⟩
  ·simp only[sH,Bj];refine⟨w,ae,?_⟩;rw[Fh];rcases jO (k+i) Ca with⟨e,e2⟩|⟨b2,cap,us,e,e2,e3,e4,e5,e6,e7,e8⟩
   ·rw[e,e2];exact⟨none,0,ae,by simp,by simp,.inl ae⟩
   ·refine⟨some ⟨b2,0,none⟩,cap,e,e4,e5,?_⟩;by_cases hx:f (k+i)=[]
    ·exact .inl hx
    refine .inr ⟨b2,0,ae,λq hq=>⟨(us.drop (q*T.n)).take T.n,dm.length T _ _ (e6 q hq),dm.mono hle T _ _ (e6 q hq),λj hj=>?_⟩⟩;have hS:S b2:= .inr ⟨k+i,Ca,by rw[e];rfl⟩;have dR:(q+1)*T.n≤cap*T.n:=eJ _ af;rw[fV,jb]at dR;simp only[fI,DH]at hj;simp only[H',aw hS,eZ,uW,wF];exact tV e2 _ af
  ·intro j hj;have CC:j=0:=zo;subst CC;have hS:S b:= .inl ae;have IC:k+i<vs.length:=af;have SW:vs[k+i]=w:=by rw[cr IC]at hw;exact GJ hw
   simp only[H',aw hS,xO,k9,kg];rw[tV hh (k+i) cT,zv IC,SW]
section
variable{n:Nat}{Q:fG}{sl sl':List (Nat×AV)}{mem mem':List (Nat×aK)}{nx:Nat}{gd gd':List (Nat×Bool)}{ops:Array Oper}{draw:Bool}{p:Pr}{ks cp:List Ks}{i i' n0 cd:Nat}{os cG:List Oper}{d:Nat}{ty:TypeId}{pos:String}{cJ:Array Edge}{R:St→Prop}
def ML{f:FuncId}{first caps:Array Operand}{fs cs:List (Bool×List C)}(h:runs eC n nx draw ops.toList os i ⟨sl,mem,n0,gd⟩ .t ks=(⟨some d,.makeFunc (.func f) first caps,ty,pos,cJ,none⟩::cG,i',⟨sl',mem',cd,gd'⟩,p,cp))(hf:rS ⟨sl',mem',cd,gd'⟩ first.toList=some fs)(hc:rS ⟨sl',mem',cd,gd'⟩ caps.toList=some cs)
  (hk:RG Tryz.prog n ops draw nx (i'+1) cG ⟨(d,.c (.M (Fi f fs cs)))::sl',mem',cd,gd'⟩ (fp draw cp (cH (first.toList++caps.toList),[.s d])) R) (h1:fJ fs=[]:=by rfl) (h2:fJ cs=[]:=by rfl)
  (hp:p:=by first|trivial| (simp only[Pr.an,Pr.h,num,aA,true_and,and_true];first|done|omega)) (aV:Nat.blt d n=true:=by rfl):RG Tryz.prog n ops draw nx i os ⟨sl,mem,n0,gd⟩ ks R:=
 jE ar h hp (kT (λho=>ala ho ae ae (cY aV) ae hf hc h1 h2) (jD hk))
def CG{cf:Operand}{args:Array Operand}{dn:Array TypeId}{c:C}{f:FuncId}{us ws vs:List AV}{r:AV}(h:runs eC n nx draw ops.toList os i ⟨sl,mem,n0,gd⟩ .t ks=(⟨some d,.call ⟨.value cf,args,dn⟩,ty,pos,cJ,none⟩::cG,i',⟨sl',mem',cd,gd'⟩,p,cp))(yA:St.ev ⟨sl',mem',cd,gd'⟩ cf=some (.c c))(ID:SY c f us ws)(hv:kH ⟨sl',mem',cd,gd'⟩ args.toList=some vs)(hf:aG Tryz.prog f (us++(vs++ws)) r)
  (hk:RG Tryz.prog n ops draw nx (i'+1) cG ⟨(d,r)::sl',mem',cd,gd'⟩ (fp draw cp (cH (cf::args.toList),[.s d])) R) (hm:fN (us++(vs++ws))=[]:=by rfl)
  (hp:p:=by first|trivial| (simp only[Pr.an,Pr.h,num,aA,true_and,and_true];first|done|omega)) (aV:Nat.blt d n=true:=by rfl):RG Tryz.prog n ops draw nx i os ⟨sl,mem,n0,gd⟩ ks R:=
 jE ar h hp (kT (λho=>aaq ho ae ae (cY aV) ae yA ID hv hm hf) (jD hk))
def S5{j tg:Nat}{want b:Bool}{cf:Operand}{args:Array Operand}{dn:Array TypeId}{c:C}{f:FuncId}{us ws vs:List AV}{r:AV}(h:runs eC n nx draw ops.toList os i ⟨sl,mem,n0,gd⟩ .t ks=(⟨some d,.call ⟨.value cf,args,dn⟩,ty,pos,cJ,some (j,want)⟩::cG,i',⟨sl',mem',cd,gd'⟩,p,cp))(hj:wS ops.toList j=some tg)(hb:ao tg sl'=some (.c (.B b)))(vi:b=want)(yA:St.ev ⟨sl',mem',cd,gd'⟩ cf=some (.c c))(ID:SY c f us ws)(hv:kH ⟨sl',mem',cd,gd'⟩ args.toList=some vs)(hf:aG Tryz.prog f (us++(vs++ws)) r)
  (hk:RG Tryz.prog n ops draw nx (i'+1) cG ⟨(d,r)::sl',mem',cd,gd'⟩ (fp draw cp (.s tg::cH (cf::args.toList),[.s d])) R) (hm:fN (us++(vs++ws))=[]:=by rfl)
  (hp:p:=by first|trivial| (simp only[Pr.an,Pr.h,num,aA,true_and,and_true];first|done|omega)) (aV:Nat.blt d n=true:=by rfl):RG Tryz.prog n ops draw nx i os ⟨sl,mem,n0,gd⟩ ks R:=
 jE ar h hp (kT (λho=>Le ho ae hj hb vi (aaq (ops:= #[⟨some d,.call ⟨.value cf,args,dn⟩,ty,pos,cJ,none⟩]) (i:=0) ae ae ae (cY aV) ae yA ID hv hm hf)) (jD hk))
def rct{f:FuncId}{args:Array Operand}{dn:Array TypeId}{o r k len cap:Nat}{E0:TypeId}{bz:Nat}{E:TypeId}{T:ET}{F:Nat→List T.den}{m:MP}{z:C}(h:runs eC n nx draw ops.toList os i ⟨sl,mem,n0,gd⟩ .t ks=(⟨some d,.call ⟨.value (.func f),args,dn⟩,ty,pos,cJ,none⟩::cG,i',⟨sl',mem',cd,gd'⟩,p,cp))(hv:kH ⟨sl',mem',cd,gd'⟩ args.toList=some [.c (.L o k len (some cap)),.c (.M m)])
  (ho:ao o mem'=some (.box E0 bz ((List.range r).map λi=> .X (1+i)))) (hF:∀i,i<r→ao (1+i) mem'=some (.vec E T (F i))) (hr:r≤140737488355328) (MK:k+len≤r) (S4:len≤cap)
  (hf:aG Tryz.prog f [cS (.sl T) ((List.range len).map λi=>F (k+i)),.c (.M m)] (.c z)) (hz:∀g g' v,dt g z v→dt g' z v)
  (hk:RG Tryz.prog n ops draw nx (i'+1) cG ⟨(d,.c z)::sl',mem',cd,gd'⟩ (fp draw cp (cH args.toList++fB (o::(List.range r).map λi=>1+i),[.s d])) R)
  (hp:p:=by first|trivial| (simp only[Pr.an,Pr.h,num,aA,true_and,and_true];first|done|omega)) (aV:Nat.blt d n=true:=by rfl):RG Tryz.prog n ops draw nx i os ⟨sl,mem,n0,gd⟩ ks R:=by
 refine jE ar h hp (kT (λck=>alb ck ae ae (cY aV) ae hv hf hz (ids:=o::(List.range r).map λi=>1+i) ?_) (jD hk))
 intro Fx known σ g W a us aJ bw jc
 have pN:=Yj (st:=⟨sl',mem',cd,gd'⟩) (ids:=o::(List.range r).map λi=>1+i) (σ:=σ) bw
 obtain⟨HF,h1,h2,h3⟩:=alk aJ (pN o be _ ho) (λi hi=>pN (1+i) (wB _ (nW.2 ⟨i,k7.2 hi,ae⟩)) _ (hF i hi)) hr
 refine⟨HF,h2,?_⟩
 obtain⟨u1,r1,rfl,k1,u2,r2,rfl,k2,k3⟩:=jc
 exact⟨u1,_,ae,h3 k len cap u1 k1 MK S4,u2,r2,ae,m.mono _ _ _ h1 k2,k3⟩
def rcc{f:FuncId}{args:Array Operand}{dn:Array TypeId}{conc fm:List (Nat×aK)}{vs:List AV}{r:AV}(h:runs eC n nx draw ops.toList os i ⟨sl,mem,n0,gd⟩ .t ks=(⟨some d,.call ⟨.value (.func f),args,dn⟩,ty,pos,cJ,none⟩::cG,i',⟨sl',conc++fm,cd,gd'⟩,p,cp))(hv:kH ⟨sl',conc++fm,cd,gd'⟩ args.toList=some vs)(hf:Fj Tryz.prog f vs fm r)(MJ:∀id b,ao id fm=some b→ao id conc=none)
  (hk:RG Tryz.prog n ops draw nx (i'+1) cG ⟨(d,r)::sl',conc,cd,gd'⟩ (fp draw cp (cH args.toList++fB (fm.map (·.1)),.s d::(fm.map (·.1)).map .m)) R)
  (hp:p:=by first|trivial| (simp only[Pr.an,Pr.h,num,aA,true_and,and_true];first|done|omega)) (aV:Nat.blt d n=true:=by rfl):RG Tryz.prog n ops draw nx i os ⟨sl,mem,n0,gd⟩ ks R:=
 jE ar h hp (kT (λho=>alh ho ae ae (cY aV) ae hv hf MJ) (jD hk))
end
end Go.El
