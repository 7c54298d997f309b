/- Contracts: products and inverses modulo a polynomial, of the program. Own work; no condition. -/
import Derived.Test.YtkkccchkmcjcpaaGreatR6
import Derived.Test.YtkkccchkmcjcpaaGreatR5
import Derived.Test.YtkkccchkmcjcpaaGreatR3
import Derived.Test.YtkkccchkmcjcpaaGreatR4
set_option linter.defProp false
set_option linter.unusedVariables false
set_option linter.unusedSimpArgs false
set_option linter.unnecessarySimpa false
namespace Go.El
open Go Go.Proofs
abbrev vN:C:= .V (.slice none 0 0)
def ajL(a b:List Int)(p:Int)(h:a=[]∨b=[]):aG Tryz.prog 94 [aP a p,aP b p] (.a [vN,.I .u64 p]):=by
 refine aX Tryz.func94 ae ae ae ae ae ak ?_;refine rr ae (aj (rb ?_));refine rg 12 ae ae (λh1=>?_) (λh1=>?_)
 ·exact re ae (ax ae (λh2=>rr ae (aF (bW (aL ar ae (au.refl _))))) (λh2=>by cases h2))
 ·have h1:¬(a.length:Int)=0:=kN h1;have ha:a≠[]:=λe=>h1 (by rw[e];rfl)
  refine re ae (ax ae (λh2=>rr ae (aF (bW (aL ar ae (au.refl _))))) (λh2=>?_));exfalso;have h2:¬(b.length:Int)=0:=kN h2;exact h2 (by rw[h.resolve_left ha];rfl)
def ajM:aG Tryz.prog 181 [.c vN] (.c vN):=by refine aX Tryz.func181 ae ae ae ae ae ak ?_;refine rr ae (aj (rb (rx ae ae ah (re ae ?_))));exact ax ae (λh=>rr ae (aF (bW (aL ar ae (au.refl _))))) (λh=>by cases h)
def ajN(b:List Int)(p:Int)(lb:b.length≤1000)(hb:b≠[]):aG Tryz.prog 127 [.a [vN,.I .u64 p],aP b p] (.t [(true,[.S aM [],.I .u64 p]),(true,[.S aM [],.I .u64 p])]):=by
 refine aX Tryz.func127 ae ae ae ae ae ak ?_;have hl:=cX.2 hb;refine rr ae (rb (rc ae ae ajM (re ae (rb (rc ae ae (tZ b p af) (re ae (aj (rr ae ?_))))))));refine ax ae (λh=>?_) (λh=>?_)
 ·refine rr ae (aF (bW (aL ar ae ?_)));refine⟨?_,λid al=>by cases al⟩;rintro g v ⟨vs,rfl,v1,r1,rfl,⟨us,rfl,v2,r2,rfl,h1,h2⟩,w1,r3,rfl,⟨Qn,rfl,v3,r4,rfl,h3,h4⟩,h5⟩;exact⟨_,ae,_,_,ae,⟨_,ae,v2,r2,ae,(au.nil aM).1 g v2 h1,h2⟩,_,_,ae,⟨_,ae,v3,r4,ae,(au.nil aM).1 g v3 h3,h4⟩,h5⟩
 ·exfalso;have h:¬(0:Int)≤(b.length:Int)-1:=bC h;omega
def Zc{p:Nat}(hp:dH p){a b:List Int}(ha:bV p a)(hb:bV p b)(B2:a≠[])(et:b≠[]):eC a b p≠[]:=λe=>by have h:=wS a b p;rw[e,ud]at h;obtain⟨n,hn⟩:∃n,a.length=n+1:=⟨a.length-1,by have:=cX.2 B2;omega⟩;obtain⟨m,hm⟩:∃m,b.length=m+1:=⟨b.length-1,by have:=cX.2 et;omega⟩;have h2:=yp hp (hn▸ke p a) (hm▸ke p b) (ha.top hn) (hb.top hm);rw[←h.at (n+m),PS.lR,df]at h2;exact h2 ae
def HL(p:Nat)(hp:dH p)(dj:p≤2147483648)(f a b:List Int)(lf:f.length≤400)(la:a.length≤400)(lb:b.length≤400)(hf:bV p f)(ha:bV p a)(hb:bV p b)(ig:f≠[]):aG Tryz.prog 159 [aP f p,aP a p,aP b p] (aP (bM (eC a b p) f p).2 p):=by
 refine aX Tryz.func159 ae ae ae ae ae ak ?_;have h2:=hp.1;have hl:=cX.2 ig;have p9:=HE a b p;by_cases h:a=[]∨b=[]
 ·have e:(bM (eC a b p) f p).2=[]:=by rw[eC,aw h,bM,aw be]
  rw[e];exact rr ae (rb (rc ae ae (ajL a b p h) (rc ae ae (ajN f p af ig) (re ae (rr ae (aF (aL ar ae (au.refl _))))))))
 ·have B2:a≠[]:=λe=>h (.inl e)
  have et:b≠[]:=λe=>h (.inr e)
  exact rr ae (rb (rc ae ae (Hy a b p af af af af ha.1 hb.1) (rc ae ae (yq p hp dj _ f af af (nD af a b).1 hf (Zc hp ha hb B2 et) ig) (re ae (rr ae (aF (aL ar ae (au.refl _))))))))
def pz(p:Int):Nat→List Int→List Int→List Int→List Int→List Int×List Int
 |0,last,_,u,_=>(last,u)
 |k+1,last,next,u,v=>if next=[]then(last,u)else pz p k next (bM last next p).2 v (a6 (js u (p-1) (eC (bM last next p).1 v p) p))
def kO(p:Int)(f m:List Int):List Int:=
 (bM (eC (pz p (f.length+1) m f [] [1]).2 (a6 [((gW ((pz p (f.length+1) m f [] [1]).1.getD 0 0).toNat p.toNat:Nat):Int)]) p) m p).2
structure Aj(p:Int)(F M:PS)(L:Nat)(last next u v:List Int):Prop where
 cl:bV p last
 cn:bV p next
 cu:bV p u
 cv:bV p v
 lt:next.length<last.length
 lu:u.length+last.length≤L+1
 lv:v.length+last.length≤L+1
 eu:∃W,aW p W∧Cg p (ps u*F) (ps last+W*M)
 ev:∃W,aW p W∧Cg p (ps v*F) (ps next+W*M)
 wU:gi p (ps last) (ps next)
def ajO(p:Int)(A:PS):Cg p (PS.K (p-1)*A) (-A):=by rw[PS.neg_eq];exact Cg.RL (by rw[show p-1= -1+p*1 by omega,JO]) A
def Aj.vne{p:Nat}(hp:dH p){F M:PS}{L:Nat}{last next u v:List Int}(h:Aj p F M L last next u v){n:Nat}(hM:Dl p (n+1) M)(hMn:M n%p≠0)(hn:next.length≤n)(h0:next≠[]):v≠[]:=λe=>by
 obtain⟨W,hW,hc⟩:=h.ev;rw[e,ud,PS.zero_mul]at hc;obtain⟨m,hW⟩:=hW;have h1:Cg p (0*M+0) (W*M+ps next):=by rw[PS.zero_mul,PS.add_zero,PS.add_comm];exact hc
 obtain⟨_,h2⟩:=Y5 hp hM hMn (m:=m) (BW _ _) hW (BW _ _) ((ke p next).le hn) h1;exact h0 (ajA h.cn h2.symm)
def Aj.next{p:Nat}(hp:dH p)(dj:p≤2147483648){F M:PS}{L:Nat}{last next u v:List Int}(h:Aj p F M L last next u v)(h0:next≠[]):Aj p F M L next (bM last next p).2 v (a6 (js u (p-1) (eC (bM last next p).1 v p) p)):=by
 have h2:=hp.1;have cK:(0:Int)<(p:Int):=af;obtain⟨d1,d2,d3,d4,d5,d6⟩:=k8 hp dj h.cl.1 h.cn h0;have hl:=cX.2 h0;have bh:=h.lt;have hlu:=h.lu;have hlv:=h.lv;have j7:=Zb u (p-1) (eC (bM last next p).1 v p) p;have sr:Cg p (ps (a6 (js u (p-1) (eC (bM last next p).1 v p) p))) (ps u-ps (bM last next p).1*ps v):=by rw[BZ,PS.sub_def];exact j7.trans (((ajO p _).trans (wS _ _ _).neg).Ry _)
 have hlen:=vp (js u (p-1) (eC (bM last next p).1 v p) p);rw[LL]at hlen;have p9:=HE (bM last next p).1 v p;obtain⟨W1,s8,e1⟩:=h.eu;obtain⟨W2,RR,e2⟩:=h.ev;refine⟨h.cn,d5 h.cl,h.cv,nC cK (HJ cK h.cu.1 _ _),by omega,by omega,by omega,⟨W2,RR,e2⟩,⟨W1-ps (bM last next p).1*W2,s8.sub ((aW.ps _ _).mul RR),?_⟩,h.wU.step (aW.ps _ _) d1⟩;generalize ps (bM last next p).1=Q at*;generalize ps (bM last next p).2=R at*;refine(sr.qF F).trans ?_;rw[PS.sub_def,PS.add_mul,PS.neg_mul,PS.mul_assoc];refine(e1.add (e2.vn Q).neg).trans ?_;have e3:Cg p (ps last+W1*M+ -(Q*(ps next+W2*M))) ((Q*ps next+R)+W1*M+ -(Q*(ps next+W2*M))):=(d1.oI _).oI _;refine e3.trans (Cg.of_eq ?_);rw[PS.mul_add,PS.neg_add,PS.sub_def,PS.add_mul,PS.neg_mul,PS.mul_assoc];have:Q*ps next+R+W1*M+(-(Q*ps next)+ -(Q*(W2*M)))=(Q*ps next+ -(Q*ps next))+(R+(W1*M+ -(Q*(W2*M)))):=kI
 rw[this,PS.add_neg,PS.zero_add]
def ajR{p:Nat}(hp:dH p)(dj:p≤2147483648){f:List Int}(hf:bV p f)(h:gi p (ps f) (ps [])):f.length=1:=by have h2:=hp.1;have:=(LI hp dj 1 f [] hf (vo af) be).2.1.1 h;rwa[py,aw ae]at this
def RS{p:Nat}(hp:dH p)(dj:p≤2147483648){F M:PS}{L:Nat}:∀(k:Nat)(last next u v:List Int),next.length<k→Aj p F M L last next u v→(pz p k last next u v).1.length=1∧bV p (pz p k last next u v).1∧bV p (pz p k last next u v).2∧(pz p k last next u v).2.length≤L∧∃W,aW p W∧Cg p (ps (pz p k last next u v).2*F) (ps (pz p k last next u v).1+W*M)
 |0,_,_,_,_,h,_=>by omega
 |k+1,last,next,u,v,hk,h=>by
  rw[pz];split
  ·rename_i e;have hc:=h.wU;rw[e]at hc;have h1:=ajR hp dj h.cl hc;have h3:=h.lu;exact⟨h1,h.cl,h.cu,by show u.length≤L;omega,h.eu⟩
  ·rename_i e;have h3:=h.next hp dj e;have h4:=h3.lt;exact RS hp dj k _ _ _ _ af h3
def RT{p:Nat}(hp:dH p){f m:List Int}(hf:bV p f)(hm:bV p m)(bh:f.length<m.length)(hc:gi p (ps f) (ps m)):Aj p (ps f) (ps m) m.length m f [] [1]:=by
 have h2:=hp.1;have cK:(0:Int)<(p:Int):=af;refine⟨hm,hf,vo cK,⟨wT ak af,.inr be⟩,bh,by simp,by simp;omega,⟨-1,(aW.one _).neg,?_⟩,⟨0,aW.zero _,?_⟩,hc.symm⟩
 ·rw[ud,PS.zero_mul,PS.neg_mul,PS.one_mul,PS.add_neg];exact Cg.refl _ _
 ·rw[B0,PS.one_mul,PS.zero_mul,PS.add_zero];exact Cg.refl _ _
def Zd{p:Nat}(hp:dH p)(dj:p≤2147483648){f m:List Int}(hf:bV p f)(hm:bV p m)(bh:f.length<m.length)(hc:gi p (ps f) (ps m))(mz:2≤m.length):bV p (kO p f m)∧(kO p f m).length≤m.length-1∧(∃W,aW p W∧Cg p (ps (kO p f m)*ps f) (1+W*ps m))∧(pz p (f.length+1) m f [] [1]).2≠[]:=by
 have h2:=hp.1;have cK:(0:Int)<(p:Int):=af;obtain⟨h1,h3,h4,h5,W,hW,h6⟩:=RS hp dj (f.length+1) m f [] [1] (fN _) (RT hp hf hm bh hc);rw[kO];generalize (pz p (f.length+1) m f [] [1]).1=last at*;generalize (pz p (f.length+1) m f [] [1]).2=u at*;have h7:=h3.1 0;have h8:last.getD 0 0≠0:=λe=>h3.top (n:=0) af FT
 have h9:=Ag hp dj h7.1 h7.2 h8;have el:ps last=PS.K (last.getD 0 0):=PS.ext λi=>by
  unfold PS.K;split
  ·rename_i e;subst e;rfl
  ·exact dz last af
 have jq:m≠[]:=λe=>by rw[e]at mz;simp at mz
 generalize ((gW (last.getD 0 0).toNat ((p:Nat):Int).toNat:Nat):Int)=s at*;have zT:s≠0:=λe=>by rw[e,eo,df]at h9;cases h9
 rw[HI zT];obtain⟨d1,d2,d3,d4,d5,d6⟩:=k8 hp dj (nD cK u [s]).1 hm jq;have LM:=wS u [s] p;rw[ajI]at LM;have HM:Cg p (PS.K s*(ps u*ps f)) (1+PS.K s*W*ps m):=by refine(h6.vn (PS.K s)).trans ?_;rw[PS.mul_add,el,←PS.sY,PS.Es,PS.mul_assoc];exact(Cg.K (by rw[fc,h9,iU ak af])).oI _
 refine⟨d5 (nD cK u [s]),d4,⟨PS.K s*W-ps (bM (eC u [s] p) m p).1*ps f,((aW.K _ _).mul hW).sub ((aW.ps _ _).mul (aW.ps _ _)),?_⟩,λe=>?_⟩
 ·generalize ps (bM (eC u [s] p) m p).1=Q at*;generalize ps (bM (eC u [s] p) m p).2=R at*;have e1:Cg p (Q*ps m+R) (ps u*PS.K s):=d1.symm.trans LM;have e2:R*ps f=(Q*ps m+R)*ps f+ -(Q*ps f*ps m):=by
   rw[PS.add_mul];have:Q*ps m*ps f+R*ps f+ -(Q*ps f*ps m)=R*ps f+(Q*ps m*ps f+ -(Q*ps m*ps f)):=by rw[show Q*ps f*ps m=Q*ps m*ps f by ac_rfl];ac_rfl
   rw[this,PS.add_neg,PS.add_zero]
  rw[e2];refine((e1.qF (ps f)).oI _).trans ?_;rw[show ps u*PS.K s*ps f=PS.K s*(ps u*ps f)by ac_rfl];refine(HM.oI _).trans (Cg.of_eq ?_);rw[PS.sub_def,PS.add_mul,PS.neg_mul];ac_rfl
 ·rw[e,ud,PS.zero_mul,PS.mul_zero]at HM;obtain⟨n,hn⟩:∃n,m.length=n+1:=⟨m.length-1,by omega⟩;obtain⟨w,hw⟩:=(aW.K p s).mul hW;have rM:Cg p (0*ps m+0) (PS.K s*W*ps m+1):=by rw[PS.zero_mul,PS.add_zero,PS.add_comm];exact HM
  obtain⟨_,h11⟩:=Y5 hp (hn▸ke p m) (hm.top hn) (m:=w) (BW _ _) hw (BW _ n) ((Lz p).le af) rM;have:=h11.at 0;rw[PS.lR,df]at this;have DW:(0:Int)=1%(p:Int):=this;rw[iU ak af]at DW;cases DW
set_option maxHeartbeats 4000000 in
def ajT(p:Nat)(hp:dH p)(dj:p≤2147483648)(f m:List Int)(lm:m.length≤200)(hf:bV p f)(hm:bV p m)(bh:f.length<m.length)(hc:gi p (ps f) (ps m))(mz:2≤m.length):aG Tryz.prog 160 [aP f p,aP m p] (aP (kO p f m) p):=by
 refine aX Tryz.func160 ae ae ae ae ae ak ?_;have h2:=hp.1;have cK:(0:Int)<(p:Int):=af;have vi:(p:Int)≠0:=af;obtain⟨n,hn⟩:∃n,m.length=n+1:=⟨m.length-1,by omega⟩;have jq:m≠[]:=λe=>by rw[e]at mz;simp at mz
 obtain⟨z1,z2,z3,z4⟩:=Zd hp dj hf hm bh hc mz;obtain⟨y1,y2,y3,y4,_⟩:=RS hp dj (f.length+1) m f [] [1] (fN _) (RT hp hf hm bh hc);have oF:=Ai f 0 p cK af ak cK;have lJ:=Ai f 1 p cK af ak af;rw[show a6 [(0:Int)]=[]from ae]at oF;rw[show a6 [(1:Int)]=[1]from ae]at lJ;refine rr ae (rr ae (rb (rc ae ae oF (rc ae ae lJ (re ae ?_)))));refine aj (aK (bA (α:=Nat×List Int×List Int×List Int×List Int) (λx=>⟨[(2,.c (.P 0 0)),(3,.c (.P 1000 0)),(4,.c (.P 2000 0)),(5,.c (.P 1002000 0)),(6,.c (.P 1003000 0)),(7,.c (.P 2004000 0)),(8,.c (.P 2005000 0))],[(0,.box 101 0 [.S aM f,.I .u64 p]),(1000,.box 101 0 [.S aM m,.I .u64 p]),(2000,.box 101 0 [.V (.slice none 0 0),.I .u64 0]),(1002000,.box 101 0 [.S aM x.2.1,.I .u64 p]),(1003000,.box 101 0 [.S aM x.2.2.1,.I .u64 p]),(2004000,.box 101 0 [.S aM x.2.2.2.1,.I .u64 p]),(2005000,.box 101 0 [.S aM x.2.2.2.2,.I .u64 p])],3,[]⟩) (λx=>pz p x.1 x.2.1 x.2.2.1 x.2.2.2.1 x.2.2.2.2=pz p (f.length+1) m f [] [1]∧x.2.2.1.length<x.1∧Aj p (ps f) (ps m) m.length x.2.1 x.2.2.1 x.2.2.2.1 x.2.2.2.2∧x.2.2.1.length≤n) (λx=>x.2.2.1.length) (f.length+1,m,f,[],[1]) ⟨ae,fN _,RT hp hf hm bh hc,by show f.length≤n;omega⟩ (wk ⟨sR ae,sR ae,sR ae,sR ae,sR ae,sR ae,sR ae,ah⟩ ⟨bE ae ae,bE ae ae,bE ae ae,bE ae ae,bE ae ae,bE ae ae,bE ae ae,ah⟩) ?_));rintro⟨k,last,next,u,v⟩ ⟨h1,h3,hE,tR⟩;simp only at h1 h3 hE tR;cases k with
 |zero=>omega
 |succ k=>
 rw[pz]at h1;refine aj (rr ae (ax ae (λh=>?_) (λh=>?_)))
 ·have h0:next≠[]:=by have h:(next.length:Int)>0:=bc h;intro e;rw[e]at h;simp at h
  rw[aq h0]at h1;have hl:=cX.2 h0;have eS:=hE.next hp dj h0;have ajU:=hE.vne hp (hn▸ke p m) (hm.top hn) tR h0;have e1:=hE.lt;have e2:=hE.lu;have e3:=hE.lv;have ajV:last≠[]:=λe=>by rw[e]at e1;simp at e1
  obtain⟨d1,d2,d3,d4,d5,d6⟩:=k8 hp dj hE.cl.1 hE.cn h0;have p9:=HE (bM last next p).1 v p;refine aC (ai (aK (rb (rc ae ae (yq p hp dj last next af af hE.cl.1 hE.cn ajV h0) (re ae (rr ae (cG ?_)))))));have hw:(AV.c (num .u64 ((p:Int)-1)).1)=cU ((p:Int)-1):=az (λz=>AV.c (C.I .u64 z)) (wrap_u64 _ af af);have hpt:=Hy (bM last next p).1 v p af af cK af d2 hE.cv.1;have aN:u≠[]∨eC (bM last next p).1 v p≠[]:=by
   refine .inr λe=>?_
   have Ah:=wS (bM last next p).1 v p;rw[e,ud]at Ah;have hnv:=eS.cv;obtain⟨W,hW,dR⟩:=eS.ev;obtain⟨b,hb⟩:∃b,v.length=b+1:=⟨v.length-1,by have:=cX.2 ajU;omega⟩;have nA:¬Cg p (ps (bM last next p).1) 0:=λhz=>by
    have h8:Cg p (ps last) (ps (bM last next p).2):=by refine d1.trans ?_;have:=(hz.qF (ps next)).oI (ps (bM last next p).2);rwa[PS.zero_mul,PS.zero_add]at this
    have h9:=az List.length (RJ hE.cl (d5 hE.cl) h8);omega
   obtain⟨dg,Ak⟩:=(B1 (ke p (bM last next p).1)).resolve_left nA;have rM:=yp hp Ak.2.2 (hb▸ke p v) Ak.2.1 (hE.cv.top hb);rw[←Ah.at (dg+b),PS.lR,df]at rM;exact absurd ae rM
  have yr:=RQ u ((p:Int)-1) (eC (bM last next p).1 v p) p af af cK af hE.cu.1 (nD cK _ _).1 ⟨by omega,by omega⟩ aN;rw[←hw]at yr;refine rc ae ae hpt (rc ae ae yr (re ae ?_));refine a7 (a8 (k,next,(bM last next p).2,v,a6 (js u (p-1) (eC (bM last next p).1 v p) p)) ⟨h1,by show(bM last next p).2.length<k;omega,eS,by show(bM last next p).2.length≤n;omega⟩ (by show(bM last next p).2.length<next.length;omega) (wk ⟨sR ae,sR ae,sR ae,sR ae,sR ae,sR ae,sR ae,ah⟩ ⟨bE ae ae,bE ae ae,bE ae ae,bE ae ae,bE ae ae,bE ae ae,bE ae ae,ah⟩))
 ·have h0:next=[]:=by have h:¬(next.length:Int)>0:=bC h;exact ik af
  rw[aw h0]at h1;rw[kO,←h1];rw[←h1]at y1 y2 y3 y4 z4;simp only at y1 y2 y3 y4 z4;obtain⟨m1,m2,m3,m4⟩:=Y' hp y2 (λe=>by rw[e]at y1;cases y1);rw[y1]at m1 m2 m3 m4;simp only[iG]at m1 m2 m3 m4;have hinv:=Lq (last.getD 0 0) p ⟨m1,m2⟩ m3 af af;refine bp (bu (br (bq (ai (rb (rc ae ae hinv (hp:=aR) (re ae (rb ?_))))))));have ku:=Ag hp dj m1 m2 m3;generalize ((gW (last.getD 0 0).toNat ((p:Nat):Int).toNat:Nat):Int)=s at*;have zT:s≠0:=λe=>by rw[e,eo,df]at ku;cases ku
  have eL:=Ai f s p cK af m4.1 m4.2;rw[HI zT]at eL⊢;have p9:=HE u [s] p;simp only[fk,mc]at p9;have qh:bV p [s]:=⟨wT m4.1 m4.2,.inr zT⟩;refine rc ae ae eL (rc ae ae (Hy u [s] p af be cK af y3.1 qh.1) (rc ae ae (yq p hp dj _ m af af (nD cK u [s]).1 hm (Zc hp y3 qh z4 be) jq) (re ae (rr ae (aF (aL ar ae (au.refl _)))))))
end Go.El
namespace Go.El
def RU(p:Int):Setoid {A:PS//aW p A}:=⟨λA B=>Cg p A.1 B.1,⟨λA=>Cg.refl p A.1,Cg.symm,Cg.trans⟩⟩
def Fx(p:Int):Type:=Quotient (RU p)
namespace Fx
variable{p:Int}
def mk(A:PS)(h:aW p A):Fx p:=Quotient.mk (RU p) ⟨A,h⟩
def mk_eq{A B:PS}{h:aW p A}{k:aW p B}:mk A h=mk B k↔Cg p A B:=⟨λe=>Quotient.exact e,λe=>Quotient.sound (s:=RU p) e⟩
def ex(x:Fx p):∃A,∃h:aW p A,x=mk A h:=by refine Quotient.inductionOn x (λA=>?_);exact⟨A.1,A.2,ae⟩
instance:Add (Fx p):=⟨λx y=>Quotient.liftOn₂ x y (λA B=>mk (A.1+B.1) (A.2.add B.2)) (λ_ _ _ _ h k=>mk_eq.2 (Cg.add h k))⟩
instance:Mul (Fx p):=⟨λx y=>Quotient.liftOn₂ x y (λA B=>mk (A.1*B.1) (A.2.mul B.2)) (λ_ _ _ _ h k=>mk_eq.2 (Cg.mul h k))⟩
instance:Neg (Fx p):=⟨λx=>Quotient.liftOn x (λA=>mk (-A.1) A.2.neg) (λ_ _ h=>mk_eq.2 (Cg.neg h))⟩
instance:_root_.Sub (Fx p):=⟨λx y=>x+ -y⟩
instance:OfNat (Fx p) 0:=⟨mk 0 (aW.zero p)⟩
instance:OfNat (Fx p) 1:=⟨mk 1 (aW.one p)⟩
def Ze{A B:PS}{h:aW p A}{k:aW p B}:mk A h+mk B k=mk (A+B) (h.add k):=rfl
def Zf{A B:PS}{h:aW p A}{k:aW p B}:mk A h*mk B k=mk (A*B) (h.mul k):=rfl
def mk_congr{A B:PS}(e:A=B)(h:aW p A)(k:aW p B):mk A h=mk B k:=mk_eq.2 (Cg.of_eq e)
def add_comm(x y:Fx p):x+y=y+x:=by obtain⟨A,h,rfl⟩:=ex x;obtain⟨B,k,rfl⟩:=ex y;exact mk_congr (PS.add_comm A B) _ _
def add_assoc(x y z:Fx p):x+y+z=x+(y+z):=by obtain⟨A,h,rfl⟩:=ex x;obtain⟨B,k,rfl⟩:=ex y;obtain⟨C,l,rfl⟩:=ex z;exact mk_congr (PS.add_assoc A B C) _ _
def mul_comm(x y:Fx p):x*y=y*x:=by obtain⟨A,h,rfl⟩:=ex x;obtain⟨B,k,rfl⟩:=ex y;exact mk_congr (PS.mul_comm A B) _ _
def mul_assoc(x y z:Fx p):x*y*z=x*(y*z):=by obtain⟨A,h,rfl⟩:=ex x;obtain⟨B,k,rfl⟩:=ex y;obtain⟨C,l,rfl⟩:=ex z;exact mk_congr (PS.mul_assoc A B C) _ _
def mul_add(x y z:Fx p):x*(y+z)=x*y+x*z:=by obtain⟨A,h,rfl⟩:=ex x;obtain⟨B,k,rfl⟩:=ex y;obtain⟨C,l,rfl⟩:=ex z;exact mk_congr (PS.mul_add A B C) _ _
def add_mul(x y z:Fx p):(x+y)*z=x*z+y*z:=by rw[mul_comm,mul_add,mul_comm z x,mul_comm z y]
def zero_add(x:Fx p):0+x=x:=by obtain⟨A,h,rfl⟩:=ex x;exact mk_congr (PS.zero_add A) ((aW.zero p).add h) h
def add_zero(x:Fx p):x+0=x:=by rw[add_comm,zero_add]
def one_mul(x:Fx p):1*x=x:=by obtain⟨A,h,rfl⟩:=ex x;exact mk_congr (PS.one_mul A) ((aW.one p).mul h) h
def mul_one(x:Fx p):x*1=x:=by rw[mul_comm,one_mul]
def zero_mul(x:Fx p):0*x=0:=by obtain⟨A,h,rfl⟩:=ex x;exact mk_congr (PS.zero_mul A) ((aW.zero p).mul h) (aW.zero p)
def mul_zero(x:Fx p):x*0=0:=by rw[mul_comm,zero_mul]
def add_neg(x:Fx p):x+ -x=0:=by obtain⟨A,h,rfl⟩:=ex x;exact mk_congr (PS.add_neg A) (h.add h.neg) (aW.zero p)
def neg_add(x:Fx p): -x+x=0:=by rw[add_comm,add_neg]
def sub_def(x y:Fx p):x-y=x+ -y:=rfl
instance:Std.Associative (α:=Fx p) (·+·):=⟨add_assoc⟩
instance:Std.Commutative (α:=Fx p) (·+·):=⟨add_comm⟩
instance:Std.Associative (α:=Fx p) (·*·):=⟨mul_assoc⟩
instance:Std.Commutative (α:=Fx p) (·*·):=⟨mul_comm⟩
def add_left_cancel{x y z:Fx p}(h:x+y=x+z):y=z:=by have:=az (-x+·) h;simpa only[←add_assoc,neg_add,zero_add]using this
def lT(x y:Fx p):x-y+y=x:=by rw[sub_def,add_assoc,neg_add,add_zero]
def yt(x y:Fx p):x+y-y=x:=by rw[sub_def,add_assoc,add_neg,add_zero]
def LN{x y z:Fx p}(h:x+y=z):x=z-y:=by rw[←h,yt]
def sub_eq{x y z:Fx p}(h:x=z+y):x-y=z:=by rw[h,yt]
def sub_self(x:Fx p):x-x=0:=add_neg x
def Ev{x y:Fx p}(h:x-y=0):x=y:=by rw[←lT x y,h,zero_add]
def sub_mul(x y z:Fx p):(x-y)*z=x*z-y*z:=LN (by rw[←add_mul,lT])
def mul_sub(x y z:Fx p):x*(y-z)=x*y-x*z:=by rw[mul_comm,sub_mul,mul_comm y,mul_comm z]
def neg_mul(x y:Fx p): -x*y= -(x*y):=add_left_cancel (x:=x*y) (by rw[←add_mul,add_neg,add_neg,zero_mul])
def mul_neg(x y:Fx p):x* -y= -(x*y):=by rw[mul_comm,neg_mul,mul_comm]
def neg_sub(x y:Fx p): -(x-y)=y-x:=add_left_cancel (x:=x-y) (by rw[add_neg,sub_def,sub_def];have:x+ -y+(y+ -x)=(x+ -x)+(-y+y):=kI;rw[this,add_neg,neg_add,add_zero])
def Zg(x y z:Fx p):(x-y)+(y-z)=x-z:=by rw[sub_def,sub_def,sub_def];have:x+ -y+(y+ -z)=x+ -z+(-y+y):=kI;rw[this,neg_add,add_zero]
def RV(x y z w:Fx p):(x+y)-(z+w)=(x-z)+(y-w):=sub_eq (by have:x-z+(y-w)+(z+w)=(x-z+z)+(y-w+w):=kI;rw[this,lT,lT])
instance:Dvd (Fx p):=⟨λa b=>∃w,b=w*a⟩
def dvd_refl(a:Fx p):a∣a:=⟨1,(one_mul a).symm⟩
def dvd_zero(a:Fx p):a∣0:=⟨0,(zero_mul a).symm⟩
def dvd_trans{a b c:Fx p}(h:a∣b)(k:b∣c):a∣c:=by obtain⟨w,rfl⟩:=h;obtain⟨v,rfl⟩:=k;exact⟨v*w,(mul_assoc v w a).symm⟩
def dvd_mul_left(a b:Fx p):a∣b*a:=⟨b,ae⟩
def dvd_mul_right(a b:Fx p):a∣a*b:=⟨b,mul_comm a b⟩
def fg{a b:Fx p}(h:a∣b)(c:Fx p):a∣c*b:=dvd_trans h (dvd_mul_left b c)
def qH{a b:Fx p}(h:a∣b)(c:Fx p):a∣b*c:=dvd_trans h (dvd_mul_right b c)
def dvd_add{a b c:Fx p}(h:a∣b)(k:a∣c):a∣b+c:=by obtain⟨w,rfl⟩:=h;obtain⟨v,rfl⟩:=k;exact⟨w+v,(add_mul w v a).symm⟩
def dvd_neg{a b:Fx p}(h:a∣b):a∣-b:=by obtain⟨w,rfl⟩:=h;exact⟨-w,(neg_mul w a).symm⟩
def dvd_sub{a b c:Fx p}(h:a∣b)(k:a∣c):a∣b-c:=dvd_add h (dvd_neg k)
def wV{a b c:Fx p}(h:a∣b+c)(k:a∣b):a∣c:=by have:=dvd_sub h k;rwa[add_comm b c,yt]at this
def Ew{a b c:Fx p}(h:a∣b-c)(k:a∣c):a∣b:=by have:=dvd_add h k;rwa[lT]at this
def nE{a b c:Fx p}(h:a∣b-c):a∣c-b:=by rw[←neg_sub];exact dvd_neg h
def rN{a b c d:Fx p}(h:a∣b-c)(k:a∣c-d):a∣b-d:=by rw[←Zg b c d];exact dvd_add h k
def RW{a b c d e:Fx p}(h:a∣b-c)(k:a∣d-e):a∣(b+d)-(c+e):=by rw[RV];exact dvd_add h k
def Ex{a b c d e:Fx p}(h:a∣b-c)(k:a∣d-e):a∣b*d-c*e:=by
 have:b*d-c*e=(b-c)*d+c*(d-e):=by rw[sub_mul,mul_sub,Zg]
 rw[this];exact dvd_add (qH h d) (fg k c)
def wW(a b:Fx p):a∣b-b:=by rw[sub_self];exact dvd_zero a
def pk(a:Fx p):Nat→Fx p
 |0=>1
 |n+1=>pk a n*a
def B3(a:Fx p):pk a 1=a:=one_mul a
def wX(a:Fx p)(m:Nat):∀n,pk a (m+n)=pk a m*pk a n
 |0=>(mul_one _).symm
 |n+1=>by rw[←tA,pk,pk,wX a m n,mul_assoc]
def B4(a:Fx p)(m:Nat):∀n,pk a (m*n)=pk (pk a m) n
 |0=>rfl
 |n+1=>by rw[Gd,wX,pk,B4 a m n]
def wY(a b:Fx p):∀n,pk (a*b) n=pk a n*pk b n
 |0=>(one_mul 1).symm
 |n+1=>by rw[pk,pk,pk,wY a b n];ac_rfl
def yu:∀n,pk (1:Fx p) n=1
 |0=>rfl
 |n+1=>by rw[pk,yu n,one_mul]
def RX{n:Nat}(h:0<n):pk (0:Fx p) n=0:=by obtain⟨m,rfl⟩:∃m,n=m+1:=⟨n-1,by omega⟩;rw[pk,mul_zero]
def B5{a b c:Fx p}(h:a∣b-c):∀n,a∣pk b n-pk c n
 |0=>wW a 1
 |n+1=>Ex (B5 h n) h
def LO{A:PS}(h:aW p A):∀n(k:aW p (pw A n)),mk (pw A n) k=pk (mk A h) n
 |0,_=>rfl
 |n+1,k=>by
  have h1:aW p (pw A n):=by
   clear k;induction n with
   |zero=>exact aW.one p
   |succ n ih=>exact ih.mul h
  rw[pk,←LO h n h1,Zf];rfl
def LP{A:PS}(h:aW p A):∀n,aW p (pw A n)
 |0=>aW.one p
 |n+1=>(LP h n).mul h
def K(c:Int):Fx p:=mk (PS.K c) (aW.K p c)
def yv(k:Nat):aW p (PS.X k):=⟨_,ajs p k⟩
def X:Fx p:=mk (PS.X 1) (yv 1)
def fx(a:List Int):Fx p:=mk (ps a) (aW.ps p a)
def qE(a b:Int):(K (a+b):Fx p)=K a+K b:=mk_congr (PS.qE a b) _ _
def gA(a b:Int):(K (a*b):Fx p)=K a*K b:=mk_congr (PS.sY a b) _ _
def mA:(K 0:Fx p)=0:=mk_congr PS.mA _ _
def mD:(K 1:Fx p)=1:=rfl
def Al(a:Int):(K (-a):Fx p)= -K a:=add_left_cancel (x:=K a) (by rw[←qE,Int.add_right_neg,mA,add_neg])
def Ey(a b:Int):(K (a-b):Fx p)=K a-K b:=by rw[OP,qE,Al,sub_def]
def uf{a b:Int}(h:a%p=b%p):(K a:Fx p)=K b:=mk_eq.2 (Cg.K h)
def LQ{a b:Int}(h:(K a:Fx p)=K b):a%p=b%p:=(mk_eq.1 h).at 0
def K_p:(K p:Fx p)=0:=mk_eq.2 (Cg.Km p)
def LR(a:Int):∀n,pk (K a:Fx p) n=K (a^n)
 |0=>by rw[wm,mD];rfl
 |n+1=>by rw[pk,LR a n,fO,gA]
def n5:(fx []:Fx p)=0:=mk_congr ud _ _
def LS:(fx [1]:Fx p)=1:=mk_congr B0 _ _
def RY(c:Int):(fx [c]:Fx p)=K c:=mk_congr (PS.ext λi=>by
 cases i with
 |zero=>rfl
 |succ i=>rfl) _ _
def ajY(c:Int)(a:List Int):ps (c::a)=PS.K c+PS.X 1*ps a:=PS.ext λi=>by
 rw[PS.fJ,PS.pt];cases i with
 |zero=>rw[aq af];show c=PS.K c 0+0;rw[PS.K,aw ae];omega
 |succ i=>rw[aw af];show a.getD i 0=PS.K c (i+1)+a.getD i 0;rw[PS.K,aq af];omega
def RZ(c:Int)(a:List Int):(fx (c::a):Fx p)=K c+X*fx a:=mk_congr (ajY c a) _ _
def ajZ{a b:List Int}(h:Cg p (ps a) (ps b)):(fx a:Fx p)=fx b:=mk_eq.2 h
def HN(a b:List Int):(fx (eC a b p):Fx p)=fx a*fx b:=mk_eq.2 (wS a b p)
def wZ(a:List Int):(fx (a6 a):Fx p)=fx a:=mk_congr (BZ a) _ _
def R0(a:List Int):(fx (md p a):Fx p)=fx a:=mk_eq.2 (LG p a)
def w9{a b:List Int}(ha:bV p a)(hb:bV p b)(h:(fx a:Fx p)=fx b):a=b:=RJ ha hb (mk_eq.1 h)
def kC(hp:0<p)(A:Fx p):∃a,bV p a∧fx a=A:=by
 obtain⟨A,⟨n,hn⟩,rfl⟩:=ex A;have hg:∀i,((List.range n).map λi=>A i%p).getD i 0=if i<n then A i%p else 0:=λi=>by
  rw[aY,j3];by_cases e:i<n
  ·rw[aw e,ot e];rfl
  ·rw[aq e,ni cO];rfl
 refine⟨a6 ((List.range n).map λi=>A i%p),nC hp (λi=>?_),?_⟩
 ·rw[hg];split
  ·exact⟨gT _ af,il _ hp⟩
  ·exact⟨jH _,hp⟩
 ·rw[wZ];refine mk_eq.2 (Cg.of λi=>?_);rw[dS,hg];split
  ·rw[kS]
  ·rw[hn i af,df]
open Classical in
noncomputable def sz(A:Fx p):Nat:=if h:∃a,bV p a∧fx a=A then(Classical.choose h).length else 0
def de{a:List Int}(ha:bV p a):sz (fx a:Fx p)=a.length:=by have h:∃b,bV p b∧(fx b:Fx p)=fx a:=⟨a,ha,ae⟩;unfold sz;rw[dif_pos h];have h2:=xy h;rw[w9 h2.1 ha h2.2]
def yw{n:Nat}(hp:0<p){A:PS}(h:aW p A)(hn:Dl p n A):sz (mk A h)≤n:=by obtain⟨a,ha,e⟩:=kC hp (mk A h);rw[←e,de ha];exact ha.len (hn.cg (mk_eq.1 e).symm)
def aj0(hp:0<p)(a:List Int):sz (fx a:Fx p)≤a.length:=yw hp _ (ke p a)
def kQ(hp:0<p):sz (0:Fx p)=0:=by rw[←n5,de (vo hp)];rfl
def Ez(hp:0<p)(c:Int):sz (K c:Fx p)≤1:=yw hp _ (Rz p c)
def R1(hp:0<p){A:Fx p}(h:sz A=0):A=0:=by obtain⟨a,ha,rfl⟩:=kC hp A;rw[de ha]at h;rw[ik h,n5]
def eN(hp:0<p){A:Fx p}(h:A≠0):0<sz A:=by
 rcases wb (sz A)with e|e
 ·exact absurd (R1 hp e) h
 ·exact e
def R2(hp:0<p)(A B:Fx p):sz (A+B)≤max (sz A) (sz B):=by obtain⟨a,ha,rfl⟩:=kC hp A;obtain⟨b,hb,rfl⟩:=kC hp B;rw[de ha,de hb];exact yw hp _ (((ke p a).le af).add ((ke p b).le af))
def R3(hp:0<p)(A:Fx p):sz (-A)≤sz A:=by obtain⟨a,ha,rfl⟩:=kC hp A;rw[de ha];exact yw hp _ (ke p a).neg
def HO(hp:0<p)(A B:Fx p):sz (A-B)≤max (sz A) (sz B):=by have h1:=R2 hp A (-B);have h2:=R3 hp B;rw[sub_def];omega
end Fx
structure bI(p:Nat):Prop where
 hp:dH p
 le:p≤2147483648
def bI.pos{p:Nat}(H:bI p):(0:Int)<(p:Int):=xw
def bI.one{p:Nat}(H:bI p):(1:Int)%(p:Int)=1:=by have:=H.hp.1;exact iU ak af
namespace Fx
variable{p:Nat}
def n6(H:bI p):(1:Fx p)≠0:=λe=>by rw[←mD,←mA]at e;have:=LQ e;rw[H.one,df]at this;cases this
def pC(H:bI p){c:Int}(h:c%(p:Int)≠0):∃d,(K d*K c:Fx p)=1:=by have h0:=gT c (show(p:Int)≠0 by have:=H.pos;omega);have h1:=il c H.pos;have e:(K c:Fx p)=K (c%(p:Int)):=uf (by rw[kS]);refine⟨((gW (c%(p:Int)).toNat ((p:Nat):Int).toNat:Nat):Int),?_⟩;rw[e,←gA,←mD];refine uf ?_;rw[fc,Ag H.hp H.le h0 h1 h,H.one]
def ug(H:bI p){c:Int}(h:c%(p:Int)≠0):(K c:Fx p)≠0:=λe=>by obtain⟨d,hd⟩:=pC H h;rw[e,mul_zero]at hd;exact n6 H hd.symm
def eK(H:bI p){A B:Fx p}(hA:A≠0)(hB:B≠0):sz (A*B)+1=sz A+sz B:=by
 obtain⟨a,ha,rfl⟩:=kC H.pos A;obtain⟨b,hb,rfl⟩:=kC H.pos B;have pa:=eN H.pos hA;have pb:=eN H.pos hB;rw[de ha]at pa⊢;rw[de hb]at pb⊢;obtain⟨n,hn⟩:∃n,a.length=n+1:=⟨a.length-1,by omega⟩;obtain⟨m,hm⟩:∃m,b.length=m+1:=⟨b.length-1,by omega⟩;have da:=ke (p:Int) a;have db:=ke (p:Int) b;rw[hn]at da⊢;rw[hm]at db⊢;have h1:=yw H.pos ((aW.ps (p:Int) a).mul (aW.ps p b)) (da.mul db);rw[←HN,de (nD H.pos a b)];have h2:=yp H.hp da db (ha.top hn) (hb.top hm);have h3:=(wS a b (p:Int)).at (n+m);have h4:(eC a b (p:Int)).length≤n+(m+1):=by have e:sz (fx (eC a b p):Fx p)=(eC a b p).length:=de (nD H.pos a b);rw[HN]at e;rw[←e];exact h1
 by_cases e:(eC a b (p:Int)).length≤n+m
 ·exfalso;rw[←h3,dS,dz _ e,df]at h2;exact h2 ae
 ·omega
def oJ(H:bI p){A B:Fx p}(hA:A≠0)(hB:B≠0):A*B≠0:=λe=>by have h:=eK H hA hB;rw[e,kQ H.pos]at h;have pa:=eN H.pos hA;have pb:=eN H.pos hB;omega
def Am(H:bI p){A B C:Fx p}(hA:A≠0)(h:B*A=C*A):B=C:=by
 refine Ev ?_;refine gn λhn=>?_
 exact oJ H hn hA (by rw[sub_mul,h,sub_self])
def oK(H:bI p):sz (1:Fx p)=1:=by have h1:=Ez H.pos 1 (p:=(p:Int));have h2:=eN H.pos (n6 H);rw[mD]at h1;omega
def EA(H:bI p){A:Fx p}(h:sz A=1):∃c:Int,c%(p:Int)≠0∧A=K c:=by
 obtain⟨a,ha,rfl⟩:=kC H.pos A;rw[de ha]at h;match a,h,ha with
 |[c],_,ha=>exact⟨c,ha.top (n:=0) ae,RY c⟩
def xa(H:bI p){A:Fx p}(h:sz A=1):∃B:Fx p,B*A=1:=by obtain⟨c,hc,rfl⟩:=EA H h;obtain⟨d,hd⟩:=pC H hc;exact⟨_,hd⟩
def B6(H:bI p){A B:Fx p}(h:B*A=1):sz A=1:=by
 have hA:A≠0:=λe=>n6 H (by rw[←h,e,mul_zero])
 have hB:B≠0:=λe=>n6 H (by rw[←h,e,zero_mul])
 have h1:=eK H hB hA;rw[h,oK H]at h1;have pa:=eN H.pos hA;have pb:=eN H.pos hB;omega
def dvd_one(H:bI p){A:Fx p}(h:A∣1):sz A=1:=by obtain⟨w,hw⟩:=h;exact B6 H hw.symm
def kD(H:bI p){A B:Fx p}(h:A∣B)(hB:B≠0):sz A≤sz B:=by
 obtain⟨w,rfl⟩:=h;have hw:w≠0:=λe=>hB JI
 have hA:A≠0:=λe=>hB (by rw[e,mul_zero])
 have h1:=eK H hw hA;have pw:=eN H.pos hw;omega
def vq(H:bI p){A B:Fx p}(h:A∣B)(bh:sz B<sz A):B=0:=
 gn λhn=>by have:=kD H h hn;omega
def R4(H:bI p)(A:Fx p){B:Fx p}(hB:B≠0):∃Q R,A=Q*B+R∧sz R<sz B:=by
 obtain⟨a,ha,rfl⟩:=kC H.pos A;obtain⟨b,hb,rfl⟩:=kC H.pos B;have et:b≠[]:=λe=>hB (by rw[e,n5])
 obtain⟨d1,d2,d3,d4,d5,d6⟩:=k8 H.hp H.le ha.1 hb et;refine⟨fx (bM a b p).1,fx (bM a b p).2,mk_eq.2 d1,?_⟩;rw[de hb,de (d5 ha)];have:=cX.2 et;omega
def An(H:bI p):∀(n:Nat)(A B:Fx p),sz B<n→∃D U V,D∣A∧D∣B∧D=U*A+V*B
 |0,_,_,h=>by omega
 |n+1,A,B,h=>by
  by_cases e:B=0
  ·subst e;exact⟨A,1,0,dvd_refl A,dvd_zero A,by rw[one_mul,mul_zero,add_zero]⟩
  ·obtain⟨Q,R,h1,h2⟩:=R4 H A e;obtain⟨D,U,V,h3,h4,h5⟩:=An H n B R af;refine⟨D,V,U-V*Q,?_,h3,?_⟩
   ·rw[h1];exact dvd_add (fg h3 Q) h4
   ·rw[h5,h1,mul_add,sub_mul];have:V*(Q*B)+V*R+(U*B-V*Q*B)=(U*B-V*Q*B+V*Q*B)+V*R:=kI;rw[this,lT]
def Co(A B:Fx p):Prop:=∃U V,U*A+V*B=1
def Co.symm{A B:Fx p}(h:Co A B):Co B A:=by obtain⟨U,V,h⟩:=h;exact⟨V,U,by rw[add_comm];exact h⟩
def Zh{a b:List Int}:Co (fx a:Fx p) (fx b)↔gi p (ps a) (ps b):=by
 constructor
 ·rintro⟨U,V,h⟩;obtain⟨U,hU,rfl⟩:=ex U;obtain⟨V,hV,rfl⟩:=ex V;exact⟨U,V,hU,hV,mk_eq.1 (h:mk _ ((hU.mul (aW.ps p a)).add (hV.mul (aW.ps p b)))=mk 1 (aW.one p))⟩
 ·rintro⟨U,V,hU,hV,h⟩;exact⟨mk U hU,mk V hV,mk_eq.2 h⟩
def Co.dvd{A B C:Fx p}(h:Co A B)(k:A∣B*C):A∣C:=by
 obtain⟨U,V,h⟩:=h;have:C=C*U*A+V*(B*C):=by have e1:C*(U*A)+C*(V*B)=C*U*A+V*(B*C):=kI;rw[←e1,←mul_add,h,mul_one]
 rw[this];exact dvd_add (dvd_mul_left A _) (fg k V)
def Co.LU{A B C:Fx p}(h:Co A B)(ka:A∣C)(kb:B∣C):A*B∣C:=by obtain⟨w,rfl⟩:=kb;rw[mul_comm w B]at ka;obtain⟨v,rfl⟩:=h.dvd ka;exact⟨v,by ac_rfl⟩
def Co.mul{A B C:Fx p}(h:Co A B)(k:Co A C):Co A (B*C):=by
 obtain⟨U,V,h⟩:=h;obtain⟨U',V',k⟩:=k;refine⟨U*U'*A+U*(V'*C)+V*B*U',V*V',?_⟩;have:(U*A+V*B)*(U'*A+V'*C)=1:=by rw[h,k,one_mul]
 rw[←this];simp only[mul_add,add_mul];ac_rfl
def Co.unit{A B:Fx p}(H:bI p)(h:Co A B)(k:A∣B):sz A=1:=by obtain⟨U,V,h⟩:=h;exact dvd_one H (h▸dvd_add (dvd_mul_left A U) (fg k V))
def cp(Q:Fx p):Prop:=2≤sz Q∧∀A B,Q=A*B→sz A=1∨sz B=1
def cp.ne{Q:Fx p}(H:bI p)(h:cp Q):Q≠0:=λe=>by have:=h.1;rw[e,kQ H.pos]at this;omega
def cp.or{Q:Fx p}(H:bI p)(h:cp Q)(A:Fx p):Q∣A∨Co Q A:=by
 obtain⟨D,U,V,h1,h2,h3⟩:=An H _ Q A (fN _);obtain⟨w,hw⟩:=h1;rcases h.2 _ _ hw with e|e
 ·obtain⟨B,hB⟩:=xa H e;left;refine dvd_trans ⟨B,?_⟩ h2;rw[hw,←mul_assoc,hB,one_mul]
 ·obtain⟨B,hB⟩:=xa H e;right;refine⟨B*U,B*V,?_⟩;rw[←hB,h3,mul_add,mul_assoc,mul_assoc]
def cp.xb{Q:Fx p}(H:bI p)(h:cp Q):¬Q∣1:=λe=>by have:=dvd_one H e;have:=h.1;omega
def cp.rO{Q:Fx p}(H:bI p)(h:cp Q){A B:Fx p}(k:Q∣A*B):Q∣A∨Q∣B:=by
 rcases h.or H A with e|e
 ·exact .inl e
 ·exact .inr (e.dvd k)
def cp.Zi{Q:Fx p}(H:bI p)(h:cp Q){c:Int}(k:Q∣K c):c%(p:Int)=0:=
 gn λhn=>by obtain⟨d,hd⟩:=pC H hn;exact h.xb H (hd▸fg k (K d))
def Ao(H:bI p):∀(n:Nat)(A:Fx p),sz A<n→2≤sz A→∃Q,cp Q∧Q∣A
 |0,_,h,_=>by omega
 |n+1,A,h,h2=>by
  by_cases hi:cp A
  ·exact⟨A,hi,dvd_refl A⟩
  ·have:∃B C,A=B*C∧¬(sz B=1∨sz C=1):=gn λhn=>hi ⟨h2,λB C e=>gn λhc=>hn ⟨B,C,e,hc⟩⟩
   obtain⟨B,C,e,hc⟩:=this;have hA:A≠0:=λe=>by rw[e,kQ H.pos]at h2;omega
   have hB:B≠0:=λe2=>hA (by rw[e,e2,zero_mul])
   have hC:C≠0:=λe2=>hA (by rw[e,e2,mul_zero])
   have h3:=eK H hB hC;rw[←e]at h3;have h4:=eN H.pos hB;have h5:=eN H.pos hC;obtain⟨Q,hQ,hd⟩:=Ao H n B af af;exact⟨Q,hQ,by rw[e];exact qH hd C⟩
def Ap(H:bI p){A B:Fx p}(hA:A≠0)(h:∀Q,cp Q→Q∣A→Q∣B→False):Co A B:=by
 obtain⟨D,U,V,h1,h2,h3⟩:=An H _ A B (fN _);have hD:D≠0:=λe=>by obtain⟨w,hw⟩:=h1;rw[e,mul_zero]at hw;exact hA hw
 have h4:=eN H.pos hD;by_cases e:sz D=1
 ·obtain⟨C,hC⟩:=xa H e;refine⟨C*U,C*V,?_⟩;rw[←hC,h3,mul_add,mul_assoc,mul_assoc]
 ·obtain⟨Q,hQ,hd⟩:=Ao H _ D (fN _) af;exact(h Q hQ (dvd_trans hd h1) (dvd_trans hd h2)).elim
def HB(H:bI p)(A B:Fx p):pk (A+B) p=pk A p+pk B p:=by obtain⟨A,hA,rfl⟩:=ex A;obtain⟨B,hB,rfl⟩:=ex B;rw[Ze,←LO (hA.add hB) _ (LP (hA.add hB) _),←LO hA _ (LP hA _),←LO hB _ (LP hB _),Ze];exact mk_eq.2 (H.hp.HB A B)
def BX(H:bI p)(c:Int):pk (K c:Fx p) p=K c:=by have h0:=gT c (show(p:Int)≠0 by have:=H.pos;omega);obtain⟨a,ha⟩:=C5 h0;have e:(K c:Fx p)=K (a:Int):=uf (by rw[←ha,kS]);rw[e,LR];exact uf (H.hp.BX a)
def ev:List (Fx p)→Fx p→Fx p
 |[],_=>1
 |c::cs,y=>c+y*ev cs y
def Zj(y0:Fx p):∀(cs:List (Fx p))(c:Fx p),∃ds:List (Fx p),ds.length=cs.length∧∀y,ev (c::cs) y=ev (c::cs) y0+(y-y0)*ev ds y
 |[],c=>⟨[],ae,λy=>by show c+y*1=c+y0*1+(y-y0)*1;rw[mul_one,mul_one,mul_one,add_assoc,add_comm y0,lT]⟩
 |c'::cs,c=>by obtain⟨ds,h1,h2⟩:=Zj y0 cs c';refine⟨ev (c'::cs) y0::ds,by simp[h1],λy=>?_⟩;show c+y*ev (c'::cs) y=c+y0*ev (c'::cs) y0+(y-y0)*(ev (c'::cs) y0+y*ev ds y);rw[h2 y];generalize ev (c'::cs) y0=w;generalize ev ds y=v;rw[mul_add,mul_add,add_assoc c,←add_assoc (y0*w),←add_mul y0,add_comm y0,lT];congr 2;ac_rfl
def roots(H:bI p){Q:Fx p}(hQ:cp Q):∀(cs:List (Fx p))(ys:List (Fx p)),cs.length<ys.length→(∀y∈ys,Q∣ev cs y)→ys.Pairwise (λa b=>¬Q∣a-b)→False
 |_,[],h,_,_=>by simp at h
 |[],y::_,_,h,_=>hQ.xb H (h y be)
 |c::cs,y0::ys,hl,h,hp=>by
  obtain⟨ds,h1,h2⟩:=Zj y0 cs c;obtain⟨jk,iJ⟩:=jZ.1 hp;have e0:=h y0 be;have key:ds.length=cs.length:=h1;have hlen:ds.length<ys.length:=by simp only[fk]at hl;omega
  refine roots H hQ ds ys hlen (λy hy=>?_) iJ;have e1:=h y oT;rw[h2 y]at e1;rcases hQ.rO H (wV e1 e0)with e|e
  ·exact absurd (nE e) (jk y hy)
  ·exact e
termination_by cs=>cs.length
decreasing_by simp only[fk];omega
def Zk(y:Fx p):∀m,ev (List.replicate m 0) y=pk y m
 |0=>rfl
 |m+1=>by rw[v9,ev,Zk y m,zero_add,pk,mul_comm]
def aj1(m:Nat)(y:Fx p):ev (0:: -1::List.replicate m 0) y=pk y (m+2)-y:=by rw[ev,ev,Zk,zero_add,mul_add,mul_neg,mul_one,pk,pk,sub_def,add_comm];congr 1;ac_rfl
def Zl(H:bI p){Q V:Fx p}(hQ:cp Q)(h:Q∣pk V p-V):∃a:Nat,a<p∧Q∣V-K (a:Int):=by
 refine gn λhn=>?_
 have h2:=H.hp.1;obtain⟨m,rfl⟩:∃m,p=m+2:=⟨p-2,by omega⟩;refine roots H hQ (0:: -1::List.replicate m 0) (V::(List.range (m+2)).map λ(a:Nat)=>K (a:Int)) be (λy hy=>?_) ?_
 ·rw[aj1];rcases dx.1 hy with rfl|hy
  ·exact h
  ·obtain⟨a,_,rfl⟩:=nQ.1 hy;rw[BX H,sub_self];exact dvd_zero Q
 ·refine jZ.2 ⟨λy hy=>?_,?_⟩
  ·obtain⟨a,ha,rfl⟩:=nQ.1 hy;exact λhd=>hn ⟨a,kR.1 ha,hd⟩
  ·refine JX.2 (VU ?_ VW);intro a b ha hb kK hd;rw[←Ey]at hd;have h3:=hQ.Zi H hd;have:=kR.1 ha;have:=kR.1 hb;have h4:((m+2:Nat):Int)∣(a:Int)-b:=C7 h3;obtain⟨k,hk⟩:=h4;rcases Int.lt_trichotomy k 0 with e|e|e
   ·have:((m+2:Nat):Int)*k≤((m+2:Nat):Int)*(-1):=ju af af;omega
   ·subst e;omega
   ·have:((m+2:Nat):Int)*1≤((m+2:Nat):Int)*k:=ju af af;omega
end Fx
namespace Fx
variable{p:Nat}
def k9(F:Fx p):Prop:=∀Q,cp Q→¬Q*Q∣F
def k9.of_dvd{F G:Fx p}(h:k9 F)(k:G∣F):k9 G:=λQ hQ hd=>h Q hQ (dvd_trans hd k)
def Aq{A B C D:Fx p}(h:A∣B)(k:C∣D):A*C∣B*D:=by obtain⟨w,rfl⟩:=h;obtain⟨v,rfl⟩:=k;exact⟨w*v,by ac_rfl⟩
def uh(H:bI p){c:Int}(h:c%(p:Int)≠0):sz (K c:Fx p)=1:=by obtain⟨d,hd⟩:=pC H h;exact B6 H hd
def Zm(H:bI p){A:Fx p}(h2:2≤sz A){c:Int}(h:A∣K c):c%(p:Int)=0:=
 gn λhn=>by have h1:=kD H h (ug H hn);rw[uh H hn]at h1;omega
def Ar(p:Nat)(V:Fx p)(s:Int):Fx p:=if p=2 then V+K s else pk (V+K s) ((p-1)/2)-1
def sep(H:bI p){F V:Fx p}(h2:2≤sz F)(hs:k9 F)(hV:F∣pk V p-V)(hn:∀c,¬F∣V-K c):
  ∃s:Nat,s<p∧∃Q1 Q2,cp Q1∧cp Q2∧Q1∣F∧Q2∣F∧Q1∣Ar p V s∧¬Q2∣Ar p V s:=by
 have iJ:=H.hp.1
 have hF:F≠0:=λe=>by rw[e,kQ H.pos]at h2;omega
 obtain⟨Q1,i1,d1⟩:=Ao H _ F (fN _) h2
 obtain⟨a,ha,da⟩:=Zl H i1 (dvd_trans d1 hV)
 obtain⟨Q2,i2,d2,n2⟩:∃Q2,cp Q2∧Q2∣F∧¬Q2∣V-K (a:Int):=by
  obtain⟨D,U,U',g1,g2,g3⟩:=An H _ F (V-K (a:Int)) (fN _);obtain⟨W,hW⟩:=g1;have R5:W≠0:=λe=>hF (by rw[hW,e,zero_mul])
  have s8:sz W≠1:=λe=>hn a (by obtain⟨C,hC⟩:=xa H e;refine dvd_trans ⟨C,?_⟩ g2;rw[hW,←mul_assoc,hC,one_mul])
  have RR:=eN H.pos R5;obtain⟨Q2,i2,d2⟩:=Ao H _ W (fN _) af;have d3:Q2∣F:=by rw[hW];exact qH d2 D
  refine⟨Q2,i2,d3,λhd=>hs Q2 i2 ?_⟩;have d4:Q2∣D:=by rw[g3];exact dvd_add (fg d3 U) (fg hd U')
  rw[hW];exact Aq d2 d4
 by_cases e2:p=2
 ·have e:(K (((p-a)%p:Nat):Int):Fx p)= -K (a:Int):=by rw[←Al];refine uf ?_;rw[Gb,kS,Int.ofNat_sub af,OP,Int.add_emod_left]
  refine⟨(p-a)%p,iq _ af,Q1,Q2,i1,i2,d1,d2,?_,?_⟩
  ·rw[Ar,aw e2,e];exact da
  ·rw[Ar,aw e2,e];exact n2
 ·obtain⟨b,hb,db⟩:=Zl H i2 (dvd_trans d2 hV);let m:=(p-1)/2;have hm:0<m:=by show 0<(p-1)/2;omega
  have key:∀{Q:Fx p}{c:Nat}(s:Int),cp Q→Q∣V-K (c:Int)→(Q∣Ar p V s↔pk (K ((c:Int)+s):Fx p) m=1):=by
   intro Q c s hQ hc;have h1:Q∣(V+K s)-K ((c:Int)+s):=by rw[qE];exact RW hc (wW Q _)
   have h3:=B5 h1 m;rw[Ar,aq e2];constructor
   ·intro h;have h4:=rN (nE h3) h;rw[LR,←mD,←Ey]at h4;have h5:=hQ.Zi H h4;rw[LR,←mD];exact uf (AR.2 h5)
   ·intro h;rw[h]at h3;exact h3
  refine gn λef=>?_
  have same:∀s:Nat,s<p→(pk (K ((a:Int)+s):Fx p) m=1↔pk (K ((b:Int)+s):Fx p) m=1):=by
   intro s pD;constructor
   ·intro h;refine gn λdm=>ef ⟨s,pD,Q1,Q2,i1,i2,d1,d2,(key s i1 da).2 h,λh'=>dm ((key s i2 db).1 h')⟩
   ·intro h;refine gn λsy=>ef ⟨s,pD,Q2,Q1,i2,i1,d2,d1,(key s i2 db).2 h,λh'=>sy ((key s i1 da).1 h')⟩
  have shift:∀u:Int,pk (K u:Fx p) m=1→pk (K (u+((b:Int)-a)):Fx p) m=1:=by
   intro u hu;have h0:=gT (u-a) (show(p:Int)≠0 by omega);have h1:=il (u-a) (show(0:Int)<(p:Int)by omega);obtain⟨s,zt⟩:=C5 h0;have e1:(K u:Fx p)=K ((a:Int)+s):=by refine uf ?_;rw[←zt,Int.add_emod_emod];congr 1;omega
   have e3:(K (u+((b:Int)-a)):Fx p)=K ((b:Int)+s):=by refine uf ?_;rw[←zt,Int.add_emod_emod];congr 1;omega
   rw[e3];exact(same s af).1 (by rw[←e1];exact hu)
  have all:∀k:Nat,pk (K (1+(k:Int)*((b:Int)-a)):Fx p) m=1:=by
   intro k;induction k with
   |zero=>rw[Int.natCast_zero,kJ,nl,mD,yu]
   |succ k ih=>
    have:=shift _ ih
    rwa[Int.add_assoc,show(k:Int)*((b:Int)-a)+((b:Int)-a)=((k+1:Nat):Int)*((b:Int)-a)by rw[ze,lF];simp]at this
  have hd:((b:Int)-a)%(p:Int)≠0:=λe=>n2 (by have e3:(K (b:Int):Fx p)=K (a:Int):=uf (AR.2 e);rw[←e3];exact db)
  obtain⟨e,he⟩:=pC H hd;have h0:=gT (-e) (show(p:Int)≠0 by omega);obtain⟨k,hk⟩:=C5 h0;have h3:=all k;have h4:(K (1+(k:Int)*((b:Int)-a)):Fx p)=0:=by
   have e5:(K (k:Int):Fx p)= -K e:=by rw[←Al];exact uf (by rw[←hk,kS])
   rw[qE,gA,e5,neg_mul,he,mD,add_neg]
  rw[h4,RX hm]at h3;exact n6 H h3.symm
def aj2(H:bI p){F G:Fx p}(hF:F≠0)(hs:k9 F)(hG:G∣F)(h2:2≤sz G)(hw:∀w,F∣pk w p-w→∃c,G∣w-K c):cp G:=by
 have iJ:=H.hp.1;refine⟨h2,λA B e=>gn λhc=>?_⟩;have Zn:G≠0:=λe=>by rw[e,kQ H.pos]at h2;omega
 have HP:A≠0:=λe1=>Zn (by rw[e,e1,zero_mul])
 have hB0:B≠0:=λe1=>Zn (by rw[e,e1,mul_zero])
 have pA:=eN H.pos HP;have pB:=eN H.pos hB0;have B7:2≤sz A:=by
  by_cases h:sz A=1
  ·exact absurd (.inl h) hc
  ·omega
 have hB2:2≤sz B:=by
  by_cases h:sz B=1
  ·exact absurd (.inr h) hc
  ·omega
 obtain⟨R,hR⟩:=hG;have eF:F=A*(B*R):=by rw[hR,e];ac_rfl
 have oL:Co A (B*R):=Ap H HP λQ hQ q1 q2=>hs Q hQ (by rw[eF];exact Aq q1 q2)
 obtain⟨U,V,LV⟩:=oL;have w0:A∣U*A:=dvd_mul_left A U;have w1:B*R∣U*A-1:=by refine nE ?_;rw[←LV,add_comm,yt];exact dvd_mul_left _ V
 have hwk:F∣pk (U*A) p-U*A:=by
  rw[eF];refine Co.LU ⟨U,V,LV⟩ ?_ ?_
  ·refine dvd_sub ?_ w0;obtain⟨q,rfl⟩:∃q,p=q+1:=⟨p-1,by omega⟩;exact fg w0 _
  ·have:=B5 w1 p;rw[yu]at this;exact rN this (nE w1)
 obtain⟨c,Zo⟩:=hw _ hwk;have dA:A∣K c:=by have h1:A∣U*A-K c:=dvd_trans (by rw[e];exact dvd_mul_right A B) Zo;exact Ew (nE h1) w0
 have dB:B∣K (c-1):=by have h1:B∣U*A-K c:=dvd_trans (by rw[e];exact dvd_mul_left B A) Zo;rw[Ey,mD];exact rN (nE h1) (dvd_trans (dvd_mul_right B R) w1)
 have z1:=Zm H B7 dA;have z2:=Zm H hB2 dB;have h1:=H.one;have h3:=xJ c (c-1) p;rw[z1,z2,show c-(c-1)=1 by omega,h1]at h3;simp at h3
end Fx
def rP(A:PS):PS:=λi=>((i:Int)+1)*A (i+1)
def aj6{p:Int}{A B:PS}(h:Cg p A B):Cg p (rP A) (rP B):=Cg.of λi=>by show((i:Int)+1)*A (i+1)%p=((i:Int)+1)*B (i+1)%p;rw[mR,h.at,←mR]
def yx{p:Int}{A:PS}(h:aW p A):aW p (rP A):=by obtain⟨n,h⟩:=h;exact⟨n,λi hi=>Ly (h (i+1) af)⟩
def jL(p:Nat)(a:List Int)(k:Nat):List Int:=(List.range k).map λj=>a.getD (j*p) 0
def B8(p:Nat)(r:List Int):PS:=λi=>if i%p=0 then r.getD (i/p) 0 else 0
namespace Fx
variable{p:Nat}
def bG(A:Fx p):Fx p:=Quotient.liftOn A (λA=>mk (rP A.1) (yx A.2)) (λ_ _ h=>mk_eq.2 (aj6 h))
def HQ(x y:Fx p):bG (x+y)=bG x+bG y:=by obtain⟨A,h,rfl⟩:=ex x;obtain⟨B,k,rfl⟩:=ex y;exact mk_congr (PS.ext λi=>by show((i:Int)+1)*(A (i+1)+B (i+1))=_;rw[oX];rfl) _ _
def EB(c:Int):bG (K c:Fx p)=0:=mk_congr (PS.ext λi=>by show((i:Int)+1)*PS.K c (i+1)=0;rw[PS.K,aq af,eo]) _ _
def R6:bG (0:Fx p)=0:=by have h:=EB (p:=p) 0;rwa[mA]at h
def EC(c:Int)(x:Fx p):bG (K c*x)=K c*bG x:=by obtain⟨A,h,rfl⟩:=ex x;exact mk_congr (PS.ext λi=>by show((i:Int)+1)*(PS.K c*A) (i+1)=(PS.K c*rP A) i;rw[PS.gA,PS.gA,rP,Wb]) (yx ((aW.K p c).mul h)) ((aW.K p c).mul (yx h))
def HR(x:Fx p):bG (X*x)=x+X*bG x:=by
 obtain⟨A,h,rfl⟩:=ex x;exact mk_congr (PS.ext λi=>by
  show((i:Int)+1)*(PS.X 1*A) (i+1)=A i+(PS.X 1*rP A) i;rw[PS.pt,PS.pt,aw af,jx];cases i with
  |zero=>simp
  |succ i=>
   rw[aw af,jx,rP,lF,iY,xH];rfl) (yx ((yv 1).mul h)) (h.add ((yv 1).mul (yx h)))
def HS(B:Fx p):∀a:List Int,bG (fx a*B)=bG (fx a)*B+fx a*bG B
 |[]=>by rw[n5,zero_mul,R6,zero_mul,zero_mul,zero_add]
 |c::a=>by have ih:=HS B a;rw[RZ,add_mul,HQ,EC,mul_assoc,HR,ih,HQ,EB,zero_add,HR];simp only[add_mul,mul_add];ac_rfl
def vr(H:bI p)(A B:Fx p):bG (A*B)=bG A*B+A*bG B:=by obtain⟨a,_,rfl⟩:=kC H.pos A;exact HS B a
def HT(H:bI p)(Q:Fx p):∀e,pk Q e∣bG (pk Q (e+1))
 |0=>⟨bG (pk Q 1),(mul_one _).symm⟩
 |e+1=>by show pk Q e*Q∣bG (pk Q (e+1)*Q);rw[vr H];exact dvd_add (Aq (HT H Q e) (dvd_refl Q)) (dvd_mul_right _ _)
def HU(H:bI p)(A:Fx p):sz (bG A)≤sz A-1:=by obtain⟨a,ha,rfl⟩:=kC H.pos A;rw[de ha];exact yw H.pos (yx (aW.ps p a)) (λi hi=>Ly (ke (p:Int) a (i+1) af))
def mult(H:bI p){Q:Fx p}(hQ:cp Q):∀(n:Nat)(F:Fx p),sz F<n→F≠0→∃e h,F=pk Q e*h∧¬Q∣h
 |0,_,h,_=>by omega
 |n+1,F,h,hF=>by
  by_cases hd:Q∣F
  ·obtain⟨w,rfl⟩:=hd;have hw:w≠0:=λe=>hF JI
   have h1:=eK H hw (hQ.ne H);have h2:=hQ.1;obtain⟨e,g,rfl,h3⟩:=mult H hQ n w af hw;exact⟨e+1,g,by rw[pk];ac_rfl,h3⟩
  ·exact⟨0,F,(one_mul F).symm,hd⟩
def vt(H:bI p){Q:Fx p}(hQ:Q≠0):∀e,pk Q e≠0
 |0=>n6 H
 |e+1=>oJ H (vt H hQ e) hQ
def Zp(H:bI p){F D W U V:Fx p}(hF:F≠0)(hW:F=W*D)(hD:D=U*F+V*bG F):k9 W:=by
 intro Q hQ hd;obtain⟨e,h,e1,e2⟩:=mult H hQ _ F (fN _) hF;cases e with
 |zero=>
  refine e2 ?_
  have e1:F=1*h:=e1
  rw[one_mul]at e1
  rw[←e1,hW]
  exact qH (dvd_trans (dvd_mul_left Q Q) hd) D
 |succ e=>
  have h1:pk Q e∣F:=by rw[e1,pk];exact qH (dvd_mul_right _ _) h
  have h2:pk Q e∣bG F:=by rw[e1,vr H];exact dvd_add (qH (HT H Q e) h) (qH (by rw[pk];exact dvd_mul_right _ _) (bG h))
  have h3:pk Q e∣D:=by rw[hD];exact dvd_add (fg h1 U) (fg h2 V)
  have h4:Q*Q*pk Q e∣F:=by rw[hW];exact Aq hd h3
  obtain⟨v,hv⟩:=h4
  refine e2 ⟨v,?_⟩
  refine Am H (vt H (hQ.ne H) (e+1)) ?_
  rw[mul_comm h,←e1,hv,pk];ac_rfl
def R7:∀n,pk (X:Fx p) n=mk (PS.X n) (yv n)
 |0=>rfl
 |n+1=>by rw[pk,R7 n];exact mk_congr (PS.Lw n 1).symm ((yv n).mul (yv 1)) (yv (n+1))
def Zq(hp:0<p)(r:List Int):aW p (B8 p r):=⟨r.length*p,λi hi=>by
 unfold B8;split
 ·rw[dz r ((Nat.le_div_iff_mul_le hp).2 hi),df]
 ·exact df _⟩
def Zr(H:bI p)(hp:0<p):∀r:List Int,pk (fx r) p=mk (B8 p r) (Zq hp r)
 |[]=>by rw[n5,RX hp];exact mk_congr (PS.ext λi=>by unfold B8;split<;>rfl) (aW.zero p) _
 |c::r=>by
  rw[RZ,HB H,BX H,wY,Zr H hp r,R7];refine mk_congr (PS.ext λi=>?_) ((aW.K p c).add ((yv p).mul (Zq hp r))) _;rw[PS.fJ,PS.pt];by_cases h:p≤i
  ·obtain⟨j,rfl⟩:∃j,i=j+p:=⟨i-p,by omega⟩;rw[aw h,jx,PS.K,aq af,A7];unfold B8;rw[Nat.add_mod_right,Nat.add_div_right _ hp];rfl
  ·rw[aq h,nl,PS.K];unfold B8;rw[q9 af,Ga af];rfl
def pth(H:bI p){a:List Int}(h:bG (fx a:Fx p)=0){k:Nat}(hk:a.length≤k*p):(fx a:Fx p)=pk (fx (jL p a k)) p:=by
 have hp:0<p:=xw;have h0:=mk_eq.1 (h:mk (rP (ps a)) (yx (aW.ps p a))=mk 0 (aW.zero p));rw[Zr H hp];refine mk_eq.2 (Cg.of λi=>?_);unfold B8;by_cases e:i%p=0
 ·rw[aw e];congr 1;have e2:i/p*p=i:=by have:=xD i p;rw[g9];omega
  unfold jL;by_cases e3:i/p<k
  ·rw[aY,j3,ot e3];show _=a.getD (i/p*p) 0;rw[e2];rfl
  ·rw[dz (List.map _ _) cO,dS,dz a];have:k*p≤i/p*p:=dY p af;omega
 ·rw[aq e,df];cases i with
  |zero=>rw[Nat.zero_mod]at e;exact absurd ae e
  |succ i=>
   have h1:=h0.at i
   rw[PS.lR,df]at h1
   refine gn λhn=>?_
   refine H.hp.oJ (a:=(i:Int)+1) (λh2=>e ?_) hn h1
   have:((i+1:Nat):Int)%(p:Int)=0:=by rw[ze];exact h2
   omega
structure Mon(p:Nat)(a:List Int):Prop where
 c:bV p a
 ne:a≠[]
 one:a.getD (a.length-1) 0=1
def Mon.pos{a:List Int}(h:Mon p a):1≤a.length:=cX.2 h.ne
def Mon.m8(H:bI p){a:List Int}(h:Mon p a):(fx a:Fx p)≠0:=λe=>by rw[←n5]at e;exact h.ne (w9 h.c (vo H.pos) e)
def LW(H:bI p){a b:List Int}(ha:Mon p a)(hb:Mon p b)(hl:b.length≤a.length):Mon p (bM a b p).1:=by
 obtain⟨d1,d2,d3,d4,d5,d6⟩:=k8 H.hp H.le ha.c.1 hb.c hb.ne;have pb:=hb.pos;obtain⟨n,hn⟩:∃n,b.length=n+1:=⟨b.length-1,by omega⟩;obtain⟨m,hm⟩:∃m,a.length=m+n+1:=⟨a.length-1-n,by omega⟩;have hq:(bM a b p).1.length=m+1:=af;have dq:=ke (p:Int) (bM a b p).1;have db:=ke (p:Int) b;rw[hq]at dq;rw[hn]at db;have h1:=d1.at (m+n);have wG:=ha.one;have jl:=hb.one;rw[hm,jx]at wG;rw[hn,jx]at jl;have hr:(ps (bM a b p).2) (m+n)=0:=by rw[dS];exact dz _ af
 rw[PS.fJ,hr,nl,dq.top db,dS,dS,dS,wG,jl,nm]at h1;have h2:=d2 m;rw[H.one,iU h2.1 h2.2]at h1;have ht:(bM a b p).1.getD ((bM a b p).1.length-1) 0=1:=by rw[hq,jx];exact h1.symm
 refine⟨⟨d2,.inr (by rw[ht];decide)⟩,λe=>by rw[e]at hq;simp at hq,ht⟩
def LX(H:bI p){a b:List Int}(ha:bV p a)(hb:bV p b)(et:b≠[]):(bM a b p).2=[]↔(fx b:Fx p)∣fx a:=by
 obtain⟨d1,d2,d3,d4,d5,d6⟩:=k8 H.hp H.le ha.1 hb et;have e:(fx a:Fx p)=fx (bM a b p).1*fx b+fx (bM a b p).2:=mk_eq.2 d1;have pb:=cX.2 et;constructor
 ·intro h;rw[e,h,n5,add_zero];exact dvd_mul_left _ _
 ·intro h;rw[e]at h;have h1:=vq H (wV h (dvd_mul_left _ _)) (by rw[de (d5 ha),de hb];omega);rw[←n5]at h1;exact w9 (d5 ha) (vo H.pos) h1
def As(H:bI p){a b:List Int}(ha:bV p a)(hb:bV p b)(et:b≠[])(h:(fx b:Fx p)∣fx a):(fx a:Fx p)=fx (bM a b p).1*fx b:=by obtain⟨d1,d2,d3,d4,d5,d6⟩:=k8 H.hp H.le ha.1 hb et;have e:(fx a:Fx p)=fx (bM a b p).1*fx b+fx (bM a b p).2:=mk_eq.2 d1;rwa[(LX H ha hb et).2 h,n5,add_zero]at e
def R8(H:bI p){a b:List Int}(ha:bV p a)(hb:bV p b)(et:b≠[]):(fx b:Fx p)∣fx (bM a b p).2-fx a:=by obtain⟨d1,_⟩:=k8 H.hp H.le ha.1 hb et;have e:(fx a:Fx p)=fx (bM a b p).1*fx b+fx (bM a b p).2:=mk_eq.2 d1;refine nE ?_;rw[e,yt];exact dvd_mul_left _ _
def Zs(H:bI p):∀(k:Nat)(f g:List Int),bV p f→bV p g→g.length<k→(fx (py p k f g):Fx p)∣fx f∧(fx (py p k f g):Fx p)∣fx g∧∃U V,(fx (py p k f g):Fx p)=U*fx f+V*fx g
 |0,_,_,_,_,h=>by omega
 |k+1,f,g,hf,hg,h=>by
  rw[py];split
  ·rename_i e;subst e;exact⟨dvd_refl _,by rw[n5];exact dvd_zero _,1,0,by rw[one_mul,zero_mul,add_zero]⟩
  ·rename_i e;obtain⟨d1,d2,d3,d4,d5,d6⟩:=k8 H.hp H.le hf.1 hg e;have hl:=cX.2 e;have e1:(fx f:Fx p)=fx (bM f g p).1*fx g+fx (bM f g p).2:=mk_eq.2 d1;obtain⟨i1,i2,U,V,i3⟩:=Zs H k g (bM f g p).2 hg (d5 hf) af;refine⟨by rw[e1];exact dvd_add (fg i1 _) i2,i1,V,U-V*fx (bM f g p).1,?_⟩;rw[i3,e1,mul_add,sub_mul];have:V*(fx (bM f g p).1*fx g)+V*fx (bM f g p).2+(U*fx g-V*fx (bM f g p).1*fx g)=(U*fx g-V*fx (bM f g p).1*fx g+V*fx (bM f g p).1*fx g)+V*fx (bM f g p).2:=kI;rw[this,lT]
def aj8(H:bI p){a:List Int}(ha:bV p a)(h0:a≠[]):Mon p (lS p a)∧(lS p a).length=a.length∧(fx (lS p a):Fx p)∣fx a∧(∃c,(fx (lS p a):Fx p)=K c*fx a)∧(fx a:Fx p)=K (a.getD (a.length-1) 0)*fx (lS p a):=by
 obtain⟨m1,m2,m3,m4,m5⟩:=RM H.hp H.le ha h0;have hl:=cX.2 h0;have e:(fx a:Fx p)=K (a.getD (a.length-1) 0)*fx (lS p a):=by rw[mul_comm];exact mk_eq.2 m5
 refine⟨⟨m1,λe=>by rw[e]at m2;simp at m2;omega,by rw[m2];exact m3⟩,m2,⟨_,e⟩,⟨((gW (a.getD (a.length-1) 0).toNat ((p:Nat):Int).toNat:Nat):Int),?_⟩,e⟩;rw[mul_comm];exact mk_eq.2 m4
def ED(H:bI p){f g:List Int}(hf:bV p f)(hg:bV p g)(ig:f≠[]):Mon p (gh p f g)∧(fx (gh p f g):Fx p)∣fx f∧(fx (gh p f g):Fx p)∣fx g∧∃U V,(fx (gh p f g):Fx p)=U*fx f+V*fx g:=by
 obtain⟨h1,h2,U,V,h3⟩:=Zs H (g.length+1) f g hf hg (fN _);obtain⟨k1,_,_⟩:=LI H.hp H.le (g.length+1) f g hf hg (fN _);have h0:py p (g.length+1) f g≠[]:=λe=>by rw[e,n5]at h1;obtain⟨w,hw⟩:=h1;rw[mul_zero,←n5]at hw;exact ig (w9 hf (vo H.pos) hw)
 obtain⟨m1,m2,m3,⟨c,m4⟩,_⟩:=aj8 H k1 h0;exact⟨m1,dvd_trans m3 h1,dvd_trans m3 h2,K c*U,K c*V,by rw[gh,m4,h3,mul_add,mul_assoc,mul_assoc]⟩
end Fx
end Go.El
namespace Go.El
open Go Go.RowKit
section
variable{P:Program}{tt:TT}
def Zt{n:Nat}{ops:Array Oper}{draw:Bool}{nx:Nat}{Q:St→Prop}(aT:cL P tt=true):∀(os HV:List Oper)(i:Nat)(st:St)(p:Pr)(ks:List Ks){i':Nat}{st':St}{p':Pr}{cj:List Ks},
  runs tt n nx draw ops.toList os i st p ks=([],i',st',p',cj)→p'.h→(RG P n ops draw nx i' HV st' cj Q)→p.h∧RG P n ops draw nx i (os++HV) st ks Q
 |[],HV,i,st,p,ks,i',st',p',cj,h,hp,hr=>by simp only[runs,cD]at h;obtain⟨_,rfl,rfl,rfl,rfl⟩:=h;exact⟨hp,hr⟩
 |o::os,HV,i,st,p,ks,i',st',p',cj,h,hp,hr=>by
  simp only[runs]at h;split at h
  ·rename_i st1 q k hs;obtain⟨DW,h3⟩:=Zt aT os HV (i+1) st1 (.an p q) (fi draw ks k) h hp hr;obtain⟨h1,h2⟩:=Pr.DE DW;exact⟨h1,DV aT hs h2 (jA h3)⟩
  ·simp only[cD]at h;obtain⟨h0,_⟩:=h;cases h0
def aj9{n:Nat}{ops:Array Oper}{draw:Bool}{nx i:Nat}{os:List Oper}{st:St}{ks:List Ks}{Q:St→Prop}{i':Nat}{st':St}{p':Pr}{cj:List Ks}(aT:cL P tt=true)(k:Nat)
  (h:runs tt n nx draw ops.toList (os.take k) i st .t ks=([],i',st',p',cj)) (hp:p') {o:Oper} {cE:List Oper} (R9:os.drop k=o::cE) (hr:RG P n ops draw nx i' (o::cE) st' cj Q):RG P n ops draw nx i os st ks Q:=by
 have:=(Zt aT (os.take k) (os.drop k) i st .t ks h hp (by rw[R9];exact hr)).2
 rwa[AY]at this
def mE{n:Nat}{ops:Array Oper}{draw:Bool}{nx i:Nat}{d:Nat}{t:TypeId}{x:Operand}{ty:TypeId}{pos:String}{cJ:Array Edge}{os:List Oper}{sl:List (Nat×AV)}{mem:List (Nat×aJ)}{n0:Nat}{gd:List (Nat×Bool)}{ks:List Ks}{Q:St→Prop}(aT:cL P tt=true)
  {id off:Nat} {E:TypeId} {bz:Nat} {cs:List C} {c:C} (hx:St.ev ⟨sl,mem,n0,gd⟩ x=some (.c (.P id off))) (hl:ao id mem=some (.box E bz cs)) (hc:cs[off]? =some c) (j8:p7 tt t=some (1,false))
  (h:RG P n ops draw nx (i+1) os ⟨(d,.c c)::sl,mem,n0,gd⟩ (fi draw ks (cF [x]++fp [id],[.s d])) Q) (aV:Nat.blt d n=true:=by rfl):
  RG P n ops draw nx i (⟨some d,.load t x,ty,pos,cJ,none⟩::os) ⟨sl,mem,n0,gd⟩ ks Q:=by
 have aV:d<n:=cT aV
 refine DV (p:= .t) aT (st1:=⟨(d,.c c)::sl,mem,n0,gd⟩) (k:=(cF [x]++fp [id],[.s d])) ?_ ah (jA h)
 simp only[zF,zE,aV,cM,hx,GA,j8,hl,o8,mN,cP,hc,OW]
def qI{n:Nat}{ops:Array Oper}{draw:Bool}{nx i:Nat}{d:Nat}{t:TypeId}{x y:Operand}{ty:TypeId}{pos:String}{cJ:Array Edge}{os:List Oper}{sl:List (Nat×AV)}{mem:List (Nat×aJ)}{n0:Nat}{gd:List (Nat×Bool)}{ks:List Ks}{Q:St→Prop}(aT:cL P tt=true)
  {id:Nat} {E:TypeId} {T:ET} {xs:List T.den} {k:IntKind} {j:Int} (hx:St.ev ⟨sl,mem,n0,gd⟩ x=some (.c (.X id))) (hl:ao id mem=some (.vec E T xs)) (hy:St.ev ⟨sl,mem,n0,gd⟩ y=some (.c (.I k j))) (dc:wA tt t T.n=true) (h0:0≤j) (h1:j<xs.length)
  (h:RG P n ops draw nx (i+1) os ⟨(d,.c (.Y id T.n j.toNat 0))::sl,mem,n0,gd⟩ (fi draw ks (cF [x,y]++fp [id],[.s d])) Q) (aV:Nat.blt d n=true:=by rfl):
  RG P n ops draw nx i (⟨some d,.indexAddr t x y,ty,pos,cJ,none⟩::os) ⟨sl,mem,n0,gd⟩ ks Q:=by
 have aV:d<n:=cT aV
 refine DV (p:= .and (.le 0 j) (.lt j xs.length)) aT (st1:=⟨(d,.c (.Y id T.n j.toNat 0))::sl,mem,n0,gd⟩) (k:=(cF [x,y]++fp [id],[.s d])) ?_ ⟨h0,h1⟩ (jA h)
 simp only[zF,zE,aV,cM,hx,hy,Kt,hl,dc]
def yy{n:Nat}{ops:Array Oper}{draw:Bool}{nx i:Nat}{d:Nat}{t:TypeId}{x:Operand}{ty:TypeId}{pos:String}{cJ:Array Edge}{os:List Oper}{sl:List (Nat×AV)}{mem:List (Nat×aJ)}{n0:Nat}{gd:List (Nat×Bool)}{ks:List Ks}{Q:St→Prop}(aT:cL P tt=true)
  {id m j off:Nat} {E:TypeId} {T:ET} {xs:List T.den} {sz:Nat} {ag:Bool} {y:AV} (hx:St.ev ⟨sl,mem,n0,gd⟩ x=some (.c (.Y id m j off))) (hl:ao id mem=some (.vec E T xs)) (hm:T.n=m) (j8:p7 tt t=some (sz,ag)) (hp:o8 (av T (xs.getD j T.kU)) off sz ag=some y) (hj:j<xs.length)
  (h:RG P n ops draw nx (i+1) os ⟨(d,y)::sl,mem,n0,gd⟩ (fi draw ks (cF [x]++fp [id],[.s d])) Q) (aV:Nat.blt d n=true:=by rfl):
  RG P n ops draw nx i (⟨some d,.load t x,ty,pos,cJ,none⟩::os) ⟨sl,mem,n0,gd⟩ ks Q:=by
 have aV:d<n:=cT aV
 refine DV (p:= .Kf j xs.length) aT (st1:=⟨(d,y)::sl,mem,n0,gd⟩) (k:=(cF [x]++fp [id],[.s d])) ?_ hj (jA h)
 simp only[zF,zE,aV,cM,hx,GA,j8,hl,hm,hp]
def aj'{n:Nat}{ops:Array Oper}{draw:Bool}{nx i:Nat}{d:Nat}{t:TypeId}{x:Operand}{ty:TypeId}{pos:String}{cJ:Array Edge}{os:List Oper}{sl:List (Nat×AV)}{mem:List (Nat×aJ)}{n0:Nat}{gd:List (Nat×Bool)}{ks:List Ks}{Q:St→Prop}(aT:cL P tt=true)
  {id:Nat} {v:AV} (hx:St.ev ⟨sl,mem,n0,gd⟩ x=some (.c (.X id))) (hl:DO tt ⟨sl,mem,n0,gd⟩ t id=some v)
  (h:RG P n ops draw nx (i+1) os ⟨(d,v)::sl,mem,n0,gd⟩ (fi draw ks (cF [x]++fp [id],[.s d])) Q) (aV:Nat.blt d n=true:=by rfl):
  RG P n ops draw nx i (⟨some d,.call ⟨.builtin .len,#[x],#[t]⟩,ty,pos,cJ,none⟩::os) ⟨sl,mem,n0,gd⟩ ks Q:=by
 have aV:d<n:=cT aV
 refine DV (p:= .t) aT (st1:=⟨(d,v)::sl,mem,n0,gd⟩) (k:=(cF [x]++fp [id],[.s d])) ?_ ah (jA h)
 simp only[zF,zE,aV,cM,hx,hl]
def aka(aT:cL P tt=true){n new:Nat}{ops:Array Oper}{i:Nat}{o:Oper}(ho:ops[i]? =some o)(hg:o.guard=none){d:Nat}(hd:o.dst=some d)(aV:d<n){st:St}{x:AV}{p:Pr}(he:GX tt st o.op=some (x,p))(hp:p):kY P n ops i st (st.put d x) new (cF o.op.operands.toList,[.s d]):=by refine⟨o9 st o.op,[(.s d,some (.v x))],ahI aT ho hg hd aV he hp new,?_,nV st d x,fR st _,λk hk=>by simpa[fe]using hk⟩;intro kx aS;obtain⟨x,_,h⟩:=jE.1 aS;exact fY st x kx h
def akb{n:Nat}{ops:Array Oper}{draw:Bool}{nx i:Nat}{d:Nat}{op:Op}{ty:TypeId}{pos:String}{cJ:Array Edge}{os:List Oper}{sl:List (Nat×AV)}{mem:List (Nat×aJ)}{n0:Nat}{gd:List (Nat×Bool)}{ks:List Ks}{Q:St→Prop}(aT:cL P tt=true){x:AV}{p:Pr}(he:GX tt ⟨sl,mem,n0,gd⟩ op=some (x,p))(hp:p)
  (h:RG P n ops draw nx (i+1) os ⟨(d,x)::sl,mem,n0,gd⟩ (fi draw ks (cF op.operands.toList,[.s d])) Q) (aV:Nat.blt d n=true:=by rfl):
  RG P n ops draw nx i (⟨some d,op,ty,pos,cJ,none⟩::os) ⟨sl,mem,n0,gd⟩ ks Q:=
 kM (λho=>aka aT ho ae ae (cT aV) he hp) (jA h)
def Zu{n:Nat}{ops:Array Oper}{draw:Bool}{nx i:Nat}{d t:Nat}{x:Operand}{ty:TypeId}{pos:String}{cJ:Array Edge}{os:List Oper}{sl:List (Nat×AV)}{mem:List (Nat×aJ)}{n0:Nat}{gd:List (Nat×Bool)}{ks:List Ks}{Q:St→Prop}(aT:cL P tt=true)
  (m:Nat) {k:IntKind} (hx:St.ev ⟨sl,mem,n0,gd⟩ x=some (.c (.I k (m:Int)))) {E:Nat} {ti ei:TI} (fo:ao t tt=some ti) (hk:ti.kind= .sl E) (jJ:ao E tt=some ei) (oD:0<ei.size) (hb:m*ei.bytes≤16777216) (dK:m≤16777216)
  (h:RG P n ops draw nx (i+1) os ⟨(d,.c (.L (1000000*nx+1000*i) 0 m (some m)))::sl,(1000000*nx+1000*i,.box E 0 (x4 (ei.zero.map ZV.sD) m))::mem,n0,gd⟩ (fi draw ks (cF [x,x],[.s d,.m (1000000*nx+1000*i)])) Q) (aV:Nat.blt d n=true:=by rfl):
  RG P n ops draw nx i (⟨some d,.makeSlice t x x,ty,pos,cJ,none⟩::os) ⟨sl,mem,n0,gd⟩ ks Q:=by
 refine kM (λho=>⟨_,_,ahL aT ho ae ae (cT aV) ae hx hx fo hk jJ oD hb dK _,?_,Bn ⟨sl,mem,n0,gd⟩ d _ _ _,λk hk=>fR ⟨sl,mem,n0,gd⟩ [x,x] k hk,λk hk=>by simpa[fe]using hk⟩) (jA h)
 intro kx aS
 obtain⟨x,_,h⟩:=jE.1 aS
 exact fY _ x kx h
def akc(aT:cL P tt=true){ops:Array Oper}{i:Nat}{o:Oper}(ho:ops[i]? =some o)(hg:o.guard=none)(hd:o.dst=none){n:Nat}{t:TypeId}{x y:Operand}(b9:o.op= .store t x y)
  {st:St} {id off j:Nat} {E:TypeId} {bz:Nat} {cs:List C} {E2:TypeId} {T:ET} {xs:List T.den} (hx:st.ev x=some (.c (.P id off))) (hy:st.ev y=some (.c (.X j))) (hl:ao id st.mem=some (.box E bz cs)) (hj:ao j st.mem=some (.vec E2 T xs)) {ag:Bool} (j8:p7 tt t=some (1,ag)) (h1:off<cs.length) (new:Nat):
  mj P n ops i (dQ st x++dQ st y++gU st [id,j]) [(.m id,some (.b (.box E bz (dy cs [.X j] off))))] new:=by
 intro F fW Q known σ g W a K dT aH bt hK
 have lH:=gy aH st x _ hx (λkx aS=>bt kx jt)
 have ph:=gy aH st y _ hy (λkx aS=>bt kx jt)
 have PF:=uR aH st y _ hy (λkx aS=>bt kx jt)
 have hσ:σ (.m id)=some (.b (.box E bz cs)):=bt (.m id,.b (.box E bz cs)) uG
 have hσj:σ (.m j)=some (.b (.vec E2 T xs)):=bt (.m j,.b (.vec E2 T xs)) (by simp[gU,hj])
 obtain⟨b,vs,rest,hγ,hh,hr,hN,hz,Bj⟩:=aH.c9 id _ hσ
 have Lr:=aH.c9 j _ hσj
 obtain⟨b',fl,hv⟩:=lH
 rw[hγ]at fl
 simp only[aO]at fl
 subst fl
 have BI:a.eval y=g.γ j:=ph
 have iK:pe (a.eval y)=true:=by rw[BI];rcases Lr with⟨e,_⟩|⟨_,_,_,e,_⟩<;>rw[e]<;>rfl
 have By:(a.eval y).cells=[a.eval y].toArray:=by rw[BI];rcases Lr with⟨e,_⟩|⟨_,_,_,e,_⟩<;>rw[e]<;>rfl
 have sC:bS g [.X j] [a.eval y]:=⟨_,_,ae,ph,ae⟩
 obtain⟨_,⟨ti,fo,WO⟩,_⟩:=Gy aT j8
 have agT:=hr.length
 have bZ:(Instr.storeAt t (a.eval x) (a.eval y)).run P W= .ok () (jm W b (dy (vs++rest) [a.eval y] off) E):=by rw[hv];simp only[Instr.storeAt,Instr.sureAddr,storeVar,Sem.run_bind,Sem.run_pure,Result.andThen,run_sizeOf fo,By];have:¬([a.eval y].toArray.size≠ti.size):=cO;simp only[this,cP];have:=DM (P:=P) b [a.eval y] W (vs++rest) off 0 hh cO (by simpa using iK);simp only[j6]at this;simpa using this
 unfold wpOp
 simp only[ho,Region.wanted,hg,cM]
 refine .inl ?_
 unfold Oper.wp
 have hex:(execOp a.eval o).run P W= .ok .skip (jm W b (dy (vs++rest) [a.eval y] off) E):=by rw[execOp,b9];simp[bZ,Sem.run,pure]
 rw[hex]
 simp only[Oper.upon,hd,Act.put]
 have hb:b<W.heap.size:=(jO.1 hh).1
 refine hK g _ a (aH.step (chg:=λj=>j=id) (g':=g) ⟨⟨cC.refl _,λ_ _=>rfl⟩,λ_ _ _=>rfl,GC aH.sub hz,by simp[jm],?_,ae,ae,ae⟩ _ new dT ae aH.defers (λ_ _=>rfl) ?_ ?_ ?_ ?_ ?_)
 ·intro k hk aN;have:b≠k:=λe=>aN id ae (by rw[hγ,e])
  exact DK this
 ·intro j hj;subst hj;exact⟨by simp[a9],_,hσ⟩
 ·intro t' v' ht;simp[a9]at ht
 ·intro q bk hq;simp only[a9]at hq;split at hq
  ·rename_i e;simp only[Key.m.injEq]at e;subst e;simp only[aO,Info.b.injEq]at hq;subst hq;have Bk:dy (vs++rest) [a.eval y] off=dy vs [a.eval y] off++rest:=WN vs rest _ off cO;exact⟨⟨b,dy vs [a.eval y] off,rest,hγ,by rw[DJ hb,Bk],hr.dy sC off,hN,hz,λh0=>by obtain⟨c,e1,e2⟩:=Bj h0;refine⟨c,e1,?_⟩;rw[←Bk,DL _ _ _ cO];exact e2⟩,.inl ⟨aH.fy _ _ hσ,_,hσ⟩⟩
  ·simp at hq
 ·intro k z gV;simp only[a9]at gV;split at gV
  ·simp only[aO]at gV;subst gV;intro q hq;rcases PE _ _ _ q hq with h|h
   ·exact .inl (aH.aD _ _ hσ q h)
   ·exact .inl (PF q (by simpa[cA,AV.aD]using h))
  ·simp at gV
 ·intro q z gV;simp only[a9]at gV;split at gV
  ·rename_i e;simp only[Key.m.injEq]at e;subst e;exact .inl (aH.fy _ _ hσ)
  ·simp at gV
def ake{α:Type}(vs:List α)(u:α)(off:Nat)(h:off<vs.length):dy vs [u] off=vs.set off u:=by unfold dy;rw[List.set_eq_take_append_cons_drop,aw h,nj];rfl
def EE{n:Nat}{ops:Array Oper}{draw:Bool}{nx i:Nat}{t:TypeId}{x y:Operand}{ty:TypeId}{pos:String}{cJ:Array Edge}{os:List Oper}{sl:List (Nat×AV)}{mem:List (Nat×aJ)}{n0:Nat}{gd:List (Nat×Bool)}{ks:List Ks}{Q:St→Prop}(aT:cL P tt=true)
  {id off j:Nat} {E:TypeId} {bz:Nat} {cs:List C} {E2:TypeId} {T:ET} {xs:List T.den} (hx:St.ev ⟨sl,mem,n0,gd⟩ x=some (.c (.P id off))) (hy:St.ev ⟨sl,mem,n0,gd⟩ y=some (.c (.X j))) (hl:ao id mem=some (.box E bz cs)) (hj:ao j mem=some (.vec E2 T xs)) {ag:Bool} (j8:p7 tt t=some (1,ag)) (h1:off<cs.length)
  (h:RG P n ops draw nx (i+1) os ⟨sl,(id,.box E bz (cs.set off (.X j)))::mem,n0,gd⟩ (fi draw ks (cF [x,y]++fp [id,j],[.m id])) Q):
  RG P n ops draw nx i (⟨none,.store t x y,ty,pos,cJ,none⟩::os) ⟨sl,mem,n0,gd⟩ ks Q:=by
 refine kM (λho=>⟨_,_,akc aT ho ae ae ae hx hy hl hj j8 h1 _,?_,?_,?_,λk hk=>by simpa[fe]using hk⟩) (jA h)
 ·intro kx aS;rcases bX.1 aS with h|h
  ·rcases bX.1 h with h|h
   ·exact fY _ x kx h
   ·exact fY _ y kx h
  ·exact rB _ [id,j] kx h
 ·rw[ake _ _ _ h1];exact Kz ⟨sl,mem,n0,gd⟩ id _
 ·intro k hk;simp only[dO,dZ,bX]at hk;rcases hk with(h|h)|h
  ·exact fM _ (fR ⟨sl,mem,n0,gd⟩ [x,y] k yX)
  ·exact fM _ (fR ⟨sl,mem,n0,gd⟩ [x,y] k yY)
  ·exact jY _ (qf ⟨sl,mem,n0,gd⟩ [id,j] k h)
end
def n7(ρ:Nat→Nat):C→C
 | .P id o=> .P (ρ id) o
 | .X id=> .X (ρ id)
 | .Y id n i o=> .Y (ρ id) n i o
 | .L id o l c=> .L (ρ id) o l c
 | .W id o l=> .W (ρ id) o l
 |c=>c
def HW(ρ:Nat→Nat):AV→AV
 | .c x=> .c (n7 ρ x)
 | .a cs=> .a (cs.map (n7 ρ))
 | .t ss=> .t (ss.map λs=>(s.1,s.2.map (n7 ρ)))
def B9(ρ:Nat→Nat):aJ→aJ
 | .box E bz cs=> .box E bz (cs.map (n7 ρ))
 | .vec E T xs=> .vec E T xs
 | .fQ f a b=> .fQ f (a.map λs=>(s.1,s.2.map (n7 ρ))) (b.map λs=>(s.1,s.2.map (n7 ρ)))
 | .fz E cs=> .fz E (cs.map (n7 ρ))
def Sa{g:Gh}{ρ:Nat→Nat}:∀{c:C}{v:Value},dk g (n7 ρ c) v→dk ⟨g.H,λid=>g.γ (ρ id)⟩ c v
 | .any,_,h=>h
 | .B _,_,h=>h
 | .I _ _,_,h=>h
 | .V _,_,h=>h
 | .S _ _,_,h=>h
 | .P _ _,_,h=>h
 | .X _,_,h=>h
 | .Y _ _ _ _,_,h=>h
 | .E _ _ _,_,h=>h
 | .M _,_,h=>h
 | .L _ _ _ (some _),_,h=>h
 | .L _ _ _ none,_,h=>h
 | .W _ _ _,_,h=>h
def HX{g:Gh}{ρ:Nat→Nat}:∀{cs:List C}{vs:List Value},bS g (cs.map (n7 ρ)) vs→bS ⟨g.H,λid=>g.γ (ρ id)⟩ cs vs
 |[],_,h=>h
 |_::_,_,h=>by obtain⟨v,r,e,h1,h2⟩:=h;exact⟨v,r,e,Sa h1,HX h2⟩
def LY{g:Gh}{ρ:Nat→Nat}:∀{cs:List (Bool×List C)}{vs:List Value},dt g (cs.map λs=>(s.1,s.2.map (n7 ρ))) vs→dt ⟨g.H,λid=>g.γ (ρ id)⟩ cs vs
 |[],_,h=>h
 | (b,c)::_,_,h=>by
  obtain⟨v,r,e,h1,h2⟩:=h;refine⟨v,r,e,?_,LY h2⟩;match b,c,h1 with
  |true,c,h1=>obtain⟨vs,e,h⟩:=h1;exact⟨vs,e,HX h⟩
  |false,[c],h1=>exact Sa h1
  |false,[],h1=>exact h1.elim
  |false,_::_::_,h1=>exact h1.elim
def Zv{g:Gh}{ρ:Nat→Nat}{x:AV}{v:Value}(h:bP g (HW ρ x) v):bP ⟨g.H,λid=>g.γ (ρ id)⟩ x v:=by
 cases x with
 |c y=>exact Sa h
 |a cs=>obtain⟨vs,e,h⟩:=h;exact⟨vs,e,HX h⟩
 |t ss=>obtain⟨vs,e,h⟩:=h;exact⟨vs,e,LY h⟩
def Zw{N:Nat→Prop}{g:Gh}{W:World}{ρ:Nat→Nat}{id:Nat}{b:aJ}(h:ji N g W (ρ id) (B9 ρ b)):ji N ⟨g.H,λid=>g.γ (ρ id)⟩ W id b:=by
 cases b with
 |box E bz cs=>
  obtain⟨k,vs,rest,e1,e2,e3,e4,e5,e6⟩:=h
  exact⟨k,vs,rest,e1,e2,HX e3,e4,e5,e6⟩
 |vec E T ys=>
  rcases h with⟨e1,e2⟩|⟨k,cap,vs,e1,e2⟩
  ·exact .inl ⟨e1,e2⟩
  ·exact .inr ⟨k,cap,vs,e1,e2⟩
 |fQ f first caps=>
  obtain⟨us,ws,e1,e2,e3⟩:=h
  exact⟨us,ws,e1,LY e2,LY e3⟩
 |fz E cs=>
  obtain⟨k,vs,rest,e1,e2,e3,e4,e5⟩:=h
  exact⟨k,vs,rest,e1,e2,HX e3,e4,e5⟩
def Ca(ρ:Nat→Nat)(l:List (Nat×AV)):List (Nat×AV)→Prop
 |[]=>True
 | (t,v')::r=>(∃v,ao t l=some v∧au v (HW ρ v'))∧Ca ρ l r
def jS(ρ:Nat→Nat)(l:List (Nat×aJ)):List (Nat×aJ)→Prop
 |[]=>True
 | (t,v')::r=>(∃v,ao (ρ t) l=some v∧dd v (B9 ρ v'))∧jS ρ l r
def Ca.get{ρ:Nat→Nat}{l:List (Nat×AV)}:∀{m:List (Nat×AV)},Ca ρ l m→∀{t v'},ao t m=some v'→∃v,ao t l=some v∧au v (HW ρ v')
 |[],_,_,_,h=>by simp[ao]at h
 | (k,x)::m,hw,t,v',h=>by
  simp only[ao]at h;split at h
  ·rename_i e;subst e;cases h;exact hw.1
  ·exact Ca.get hw.2 h
def jS.get{ρ:Nat→Nat}{l:List (Nat×aJ)}:∀{m:List (Nat×aJ)},jS ρ l m→∀{t v'},ao t m=some v'→∃v,ao (ρ t) l=some v∧dd v (B9 ρ v')
 |[],_,_,_,h=>by simp[ao]at h
 | (k,x)::m,hw,t,v',h=>by
  simp only[ao]at h;split at h
  ·rename_i e;subst e;cases h;exact hw.1
  ·exact jS.get hw.2 h
def eO(K:Nat)(m:List (Nat×aJ)):Prop:=∀t v,ao t m=some v→t<K∧∀id∈v.aD,id<K
def xc(ρ:Nat→Nat){st st':St}(hs:Ca ρ st.sl st'.sl)(hm:jS ρ st.mem st'.mem)(h0:ρ 0=0)(HY:∀id b6,(ao id st'.mem).isSome=true→(ao b6 st'.mem).isSome=true→ρ id=ρ b6→id=b6)
  (uj:eO (1000000*st'.nx) st'.mem) (qJ:sK (1000000*st'.nx) st'.sl=true:=by rfl) (eS:Nat.ble 1 st'.nx=true:=by rfl):Wk st st':=by
 intro F gM g W a h
 have eS:=cT eS
 let g':Gh:=⟨g.H,λid=>g.γ (ρ id)⟩
 have hS:∀t v',st'.kn (.s t)=some (.v v')→(∃v,st.kn (.s t)=some (.v v)∧au v (HW ρ v'))∧∀id∈v'.aD,id<1000000*st'.nx:=by intro t v' e;simp only[St.kn,cq]at e;obtain⟨x,hx,he⟩:=e;cases he;obtain⟨v,hv,hle⟩:=hs.get hx;exact⟨⟨v,by simp[St.kn,hv],hle⟩,zJ qJ t v' hx⟩
 have hM:∀id b',st'.kn (.m id)=some (.b b')→(∃b,st.kn (.m (ρ id))=some (.b b)∧dd b (B9 ρ b'))∧(id<1000000*st'.nx∧∀j∈b'.aD,j<1000000*st'.nx)∧(ao id st'.mem).isSome=true:=by intro t v' e;simp only[St.kn,cq]at e;obtain⟨x,hx,he⟩:=e;cases he;obtain⟨v,hv,hle⟩:=hm.get hx;exact⟨⟨v,by simp[St.kn,hv],hle⟩,uj t v' hx,by rw[hx];rfl⟩
 refine⟨g',h.size,h.defers,?_,?_,?_,?_,?_,h.sub,h.below,h.le,h.fresh,?_⟩
 ·intro t v' e;obtain⟨⟨v,hv,hle⟩,_⟩:=hS t v' e;exact Zv (hle.1 _ _ (h.gw t v hv))
 ·intro id b' e;obtain⟨⟨b,hb,hle⟩,_⟩:=hM id b' e;exact Zw (hle.1 _ _ _ _ (h.c9 (ρ id) b hb))
 ·intro id b6 b b' k e e' hk du;obtain⟨⟨c,hc,_⟩,_,h1⟩:=hM id b e;obtain⟨⟨c',pf,_⟩,_,h2⟩:=hM b6 b' e';exact HY id b6 h1 h2 (h.inj (ρ id) (ρ b6) c c' k hc pf hk du)
 ·intro k x e id al;cases k with
  |s t=>
   cases x with
   |v v'=>exact(hS t v' e).2 id al
   |b b'=>simp only[St.kn,cq]at e;obtain⟨_,_,he⟩:=e;cases he
  |m j=>
   cases x with
   |v v'=>simp only[St.kn,cq]at e;obtain⟨_,_,he⟩:=e;cases he
   |b b'=>exact(hM j b' e).2.1.2 id al
 ·intro id x e;cases x with
  |v v'=>simp only[St.kn,cq]at e;obtain⟨_,_,he⟩:=e;cases he
  |b b'=>exact(hM id b' e).2.1.1
 ·intro id al;have hz:id=0:=af;subst hz;refine⟨?_,?_⟩
  ·show 0<1000000*st'.nx;omega
  ·show g.γ (ρ 0)=_;rw[h0];exact(h.iu 0 al).2
def HZ{st st':St}(hs:xS st.sl st'.sl)(hm:iM st.mem st'.mem)(uj:eO (1000000*st'.nx) st'.mem)(qJ:sK (1000000*st'.nx) st'.sl=true:=by rfl)(eS:Nat.ble 1 st'.nx=true:=by rfl):Wk st st':=by
 intro F gM g W a h;have xT:∀id,id<F.k0→kb st' id∧g.γ id=F.γ0 id:=by intro id al;obtain⟨h1,h2⟩:=h.iu id al;refine⟨?_,h2⟩;have h1:id<1000000*st.nx:=h1;show id<1000000*st'.nx;have:=cT eS;omega
 have hS:∀t v',st'.kn (.s t)=some (.v v')→(∃v,st.kn (.s t)=some (.v v)∧au v v')∧∀id∈v'.aD,id<1000000*st'.nx:=by intro t v' e;simp only[St.kn,cq]at e;obtain⟨x,hx,he⟩:=e;cases he;obtain⟨v,hv,hle⟩:=hs.get hx;exact⟨⟨v,by simp[St.kn,hv],hle⟩,zJ qJ t v' hx⟩
 have hM:∀id b',st'.kn (.m id)=some (.b b')→(∃b,st.kn (.m id)=some (.b b)∧dd b b')∧id<1000000*st'.nx∧∀j∈b'.aD,j<1000000*st'.nx:=by intro t v' e;simp only[St.kn,cq]at e;obtain⟨x,hx,he⟩:=e;cases he;obtain⟨v,hv,hle⟩:=hm.get hx;exact⟨⟨v,by simp[St.kn,hv],hle⟩,uj t v' hx⟩
 refine⟨g,h.size,h.defers,?_,?_,?_,?_,?_,h.sub,h.below,h.le,h.fresh,xT⟩
 ·intro t v' e;obtain⟨⟨v,hv,hle⟩,_⟩:=hS t v' e;exact hle.1 _ _ (h.gw t v hv)
 ·intro id b' e;obtain⟨⟨b,hb,hle⟩,_⟩:=hM id b' e;exact hle.1 _ _ _ _ (h.c9 id b hb)
 ·intro id b6 b b' k e e' hk du;obtain⟨⟨c,hc,_⟩,_⟩:=hM id b e;obtain⟨⟨c',pf,_⟩,_⟩:=hM b6 b' e';exact h.inj id b6 c c' k hc pf hk du
 ·intro k x e id al;cases k with
  |s t=>
   cases x with
   |v v'=>exact(hS t v' e).2 id al
   |b b'=>simp only[St.kn,cq]at e;obtain⟨_,_,he⟩:=e;cases he
  |m j=>
   cases x with
   |v v'=>simp only[St.kn,cq]at e;obtain⟨_,_,he⟩:=e;cases he
   |b b'=>exact(hM j b' e).2.2 id al
 ·intro id x e;cases x with
  |v v'=>simp only[St.kn,cq]at e;obtain⟨_,_,he⟩:=e;cases he
  |b b'=>exact(hM id b' e).2.1
def eO.nil{K:Nat}:eO K []:=λ_ _ h=>by cases h
def eO.cons{K id:Nat}{b:aJ}{m:List (Nat×aJ)}(h1:id<K)(h2:∀j∈b.aD,j<K)(h:eO K m):eO K ((id,b)::m):=λt v e=>by
 simp only[ao]at e;split at e
 ·rename_i e2;cases e;subst e2;exact⟨h1,h2⟩
 ·exact h t v e
def eO.of{K:Nat}{m:List (Nat×aJ)}(h:nw K m=true):eO K m:=KG h
def Sb{cs:List C}{K:Nat}(h:∀c∈cs,∀id∈c.aD,id<K):∀j∈cA cs,j<K:=by
 induction cs with
 |nil=>intro j hj;cases hj
 |cons c cs ih=>
  intro j hj
  rcases bX.1 hj with h1|h1
  ·exact h c be j h1
  ·exact ih (λd hd=>h d (by simp[hd])) j h1
def gj(r:Nat)(E:TypeId)(T:ET)(f:Nat→List T.den):List (Nat×aJ):=(List.range r).map λi=>(1+i,aJ.vec E T (f i))
def yz{α:Type}(t:Nat):∀(a b:List (Nat×α)),ao t (a++b)=(ao t a).or (ao t b)
 |[],_=>rfl
 | (k,x)::a,b=>by
  simp only[mQ,ao];split
  ·rfl
  ·exact yz t a b
def cr{r:Nat}{E:TypeId}{T:ET}{f:Nat→List T.den}:∀{i:Nat},i<r→ao (1+i) (gj r E T f)=some (.vec E T (f i)):=by
 induction r with
 |zero=>intro i h;omega
 |succ r ih=>
  intro i h
  unfold gj at ih⊢
  rw[pW,dZ,yz]
  by_cases e:i<r
  ·rw[ih e];rfl
  ·have:i=r:=by omega
   subst this;have hn:∀n,n≤i→ao (1+i) ((List.range n).map λj=>(1+j,aJ.vec E T (f j)))=none:=by
    intro n hn;induction n with
    |zero=>rfl
    |succ n Sd=>
     rw[pW,dZ,yz,Sd af]
     simp only[jF,Ge,ao]
     rw[aq af];rfl
   rw[hn i (bF _)];simp[ao]
def LZ{r:Nat}{E:TypeId}{T:ET}{f:Nat→List T.den}{id:Nat}{b:aJ}:ao id (gj r E T f)=some b→∃i,i<r∧id=1+i∧b= .vec E T (f i):=by
 induction r with
 |zero=>intro h;cases h
 |succ r ih=>
  intro h
  unfold gj at ih h
  rw[pW,dZ,yz]at h
  cases h1:ao id ((List.range r).map λi=>(1+i,aJ.vec E T (f i)))with
  |some b'=>
   rw[h1]at h
   cases h
   obtain⟨i,h2,h3,h4⟩:=ih h1
   exact⟨i,by omega,h3,h4⟩
  |none=>
   rw[h1]at h
   simp only[jF,Ge,ao,Option.none_or]at h
   split at h
   ·rename_i e;cases h;exact⟨r,by omega,e.symm,ae⟩
   ·cases h
def L0:List (Nat×aJ)→Bool
 |[]=>true
 | (id,_)::r=>(Nat.beq id 0||Nat.ble 1000 id)&&L0 r
def akf{m:List (Nat×aJ)}:L0 m=true→∀{i:Nat},i<900→ao (1+i) m=none:=by
 induction m with
 |nil=>intro _ i _;rfl
 |cons x m ih=>
  obtain⟨id,b⟩:=x
  intro h i hi
  simp only[L0,eQ,zd]at h
  simp only[ao]
  rw[aq]
  ·exact ih h.2 hi
  ·intro e;rcases h.1 with h1|h1
   ·have:=Da h1;omega
   ·have:=cT h1;omega
def eO.app{K:Nat}{a b:List (Nat×aJ)}(ha:eO K a)(hb:eO K b):eO K (a++b):=λt v h=>by
 rw[yz]at h;cases h1:ao t a with
 |some x=>rw[h1]at h;cases h;exact ha t _ h1
 |none=>rw[h1]at h;exact hb t v h
def eO.gj{K r:Nat}(h:1+r≤K){E:TypeId}{T:ET}{f:Nat→List T.den}:eO K (gj r E T f):=λt v e=>by obtain⟨i,h1,rfl,rfl⟩:=LZ e;exact⟨by omega,λid al=>by cases al⟩
def jS.app{ρ:Nat→Nat}{l:List (Nat×aJ)}:∀{a b:List (Nat×aJ)},jS ρ l a→jS ρ l b→jS ρ l (a++b)
 |[],_,_,h=>h
 |_::_,_,h,k=>⟨h.1,jS.app h.2 k⟩
def jS.map{ρ:Nat→Nat}{l:List (Nat×aJ)}{g:Nat→Nat×aJ}:∀{L:List Nat},(∀i∈L,∃v,ao (ρ (g i).1) l=some v∧dd v (B9 ρ (g i).2))→jS ρ l (L.map g)
 |[],_=>trivial
 |i::L,h=>⟨h i be,jS.map λj hj=>h j (by simp[hj])⟩
def jS.gj{ρ:Nat→Nat}{l:List (Nat×aJ)}{r:Nat}{E:TypeId}{T:ET}{f:Nat→List T.den}(h:∀i,i<r→ao (ρ (1+i)) l=some (.vec E T (f i))):jS ρ l (gj r E T f):=
 jS.map λi hi=>⟨_,h i (kR.1 hi),dd.refl _⟩
def iM.app{l:List (Nat×aJ)}:∀{a b:List (Nat×aJ)},iM l a→iM l b→iM l (a++b)
 |[],_,_,h=>h
 |_::_,_,h,k=>⟨h.1,iM.app h.2 k⟩
def iM.map{l:List (Nat×aJ)}{g:Nat→Nat×aJ}:∀{L:List Nat},(∀i∈L,∃v,ao (g i).1 l=some v∧dd v (g i).2)→iM l (L.map g)
 |[],_=>trivial
 |i::L,h=>⟨h i be,iM.map λj hj=>h j (by simp[hj])⟩
def iM.gj{l:List (Nat×aJ)}{r:Nat}{E:TypeId}{T:ET}{f:Nat→List T.den}(h:∀i,i<r→ao (1+i) l=some (.vec E T (f i))):iM l (gj r E T f):=
 iM.map λi hi=>⟨_,h i (kR.1 hi),dd.refl _⟩
def Se{K:Nat}:∀{a b:List (Nat×aJ)},nw K a=true→nw K b=true→nw K (a++b)=true
 |[],_,_,h=>h
 | (id,v)::a,b,h,k=>by simp only[nw,eQ,mQ]at h⊢;exact⟨h.1,Se h.2 k⟩
def akg{K r:Nat}(h:1+r≤K){E:TypeId}{T:ET}{f:Nat→List T.den}:nw K (gj r E T f)=true:=by
 unfold Go.El.gj;have:∀L:List Nat,(∀i∈L,i<r)→nw K (L.map λi=>(1+i,aJ.vec E T (f i)))=true:=by
  intro L hL;induction L with
  |nil=>rfl
  |cons i L ih=>
   have hi:=hL i be
   simp only[jF,nw,aJ.aD,sJ,Bool.and_true,eQ]
   refine⟨VY af,ih λj hj=>hL j (by simp[hj])⟩
 exact this _ λi hi=>kR.1 hi
def Zx{K:Nat}:∀{cs:List C},(∀c∈cs,∀id∈c.aD,id<K)→sJ K (cA cs)=true
 |[],_=>rfl
 |c::cs,h=>by
  have h1:∀{l m:List Nat},sJ K l=true→sJ K m=true→sJ K (l++m)=true:=by
   intro l m hl hm;induction l with
   |nil=>exact hm
   |cons x l ih=>
    simp only[sJ,eQ,mQ]at hl⊢
    exact⟨hl.1,ih hl.2⟩
  have h2:∀{l:List Nat},(∀id∈l,id<K)→sJ K l=true:=by
   intro l hl;induction l with
   |nil=>rfl
   |cons x l ih=>
    simp only[sJ,eQ]
    exact⟨VY (hl x be),ih λy hy=>hl y oT⟩
  exact h1 (h2 (h c be)) (Zx λd hd=>h d (by simp[hd]))
section
variable{P:Program}{tt:TT}{n:Nat}{st:St}
def akh(aT:cL P tt=true){fn:Func}{t id r:Nat}{E0:TypeId}{bz:Nat}{E:TypeId}{T:ET}{f:Nat→List T.den}(hl:ao t st.sl=some (.c (.L id 0 r (some r))))(hm:ao id st.mem=some (.box E0 bz ((List.range r).map λi=> .X (1+i))))(hf:∀i,i<r→ao (1+i) st.mem=some (.vec E T (f i)))(hr:r≤140737488355328)(fG:fn.results= #[.tmp t]:=by rfl):fZ n .ret st (KH P fn (.c (.S (.sl T) ((List.range r).map f)))):=by
 intro F hF g W a h sL;obtain⟨u,hu,bU⟩:=Bv (rs:=[.tmp t]) (v:= .c (.L id 0 r (some r))) aT h fG (by simp[tN,Bt,hl]);obtain⟨b,vs,rest,hγ,hh,kA,hN,hz,_⟩:=h.c9 id (.box E0 bz ((List.range r).map λi=> .X (1+i))) (by simp[St.kn,hm]);obtain⟨b',fl,zX⟩:=bU;rw[hγ]at fl;simp only[aO]at fl;subst fl;have jK:=λi(hi:i<r)=>h.c9 (1+i) (.vec E T (f i)) (by simp[St.kn,hf i hi])
 let S:Nat→Prop:=λk=>k=b∨∃i,i<r∧cN (g.γ (1+i))=some k
 have Sf:∀k,S k→∀o,g.H k o=none:=by
  rintro k (rfl|⟨i,hi,hk⟩) o
  ·exact hz o
  ·rcases jK i hi with⟨e,_⟩|⟨b2,cap,us,e,_,_,_,_,_,_,zC⟩
   ·rw[e]at hk;cases hk
   ·rw[e]at hk;simp only[cN,aO]at hk;subst hk;exact zC o
 have hSN:∀k,S k→F.N k:=by
  rintro k (rfl|⟨i,hi,hk⟩)
  ·exact hN
  ·exact((jK i hi).block hk).1
 classical
 let H':FH:=λk o=>if S k then W.cell? ⟨k,o,none⟩else g.H k o
 have hle:cC g.H H':=by
  intro k o v hv;by_cases e:S k
  ·rw[Sf k e o]at hv;cases hv
  ·simp only[H',aq e];exact hv
 refine⟨h.defers.trans hF.ds,u,hu,u,H',ae,?_,cC.trans h.le hle,?_,?_,⟨h.below.os,h.below.tape,h.below.output,h.below.size,λk hk=>h.below.block k hk (sL k)⟩⟩
 ·have j9:=kA.length;simp only[dJ,A1]at j9;refine⟨some ⟨b,0,none⟩,r,by rw[zX];simp,by simp,by simpa using hr,?_⟩;by_cases h0:r=0
  ·subst h0;exact .inl ae
  refine .inr ⟨b,0,ae,λi hi=>?_⟩;have o0:i<r:=by simpa using hi
  have zM:((List.range r).map λi=>C.X (1+i))[i]? =some (.X (1+i)):=by simp[o0]
  obtain⟨w,hw,zy⟩:=bS.get kA zM;have EF:w=g.γ (1+i):=zy;refine⟨[w],ae,?_,?_⟩
  ·simp only[si,A0];refine⟨w,ae,?_⟩;rw[EF];rcases jK i o0 with⟨e,e2⟩|⟨b2,cap,us,e,e2,e3,e4,e5,e6,e7,e8⟩
   ·rw[e,e2];exact⟨none,0,ae,by simp,by simp,.inl ae⟩
   ·refine⟨some ⟨b2,0,none⟩,cap,e,e4,e5,?_⟩;by_cases hx:f i=[]
    ·exact .inl hx
    refine .inr ⟨b2,0,ae,λk hk=>⟨(us.drop (k*T.n)).take T.n,dh.length T _ _ (e6 k hk),dh.mono hle T _ _ (e6 k hk),λj hj=>?_⟩⟩;have hS:S b2:= .inr ⟨i,o0,by rw[e];rfl⟩;have dL:(k+1)*T.n≤cap*T.n:=dY _ af;rw[fP,iZ]at dL;simp only[fD,F']at hj;simp only[H',aw hS,eR,uJ,we];exact tI e2 _ af
  ·intro j hj;have Cb:j=0:=yZ;subst Cb;have hS:S b:= .inl ae;have H4:i<vs.length:=af;have Sg:vs[i]=w:=by rw[ct H4]at hw;exact Gc hw
   simp only[H',aw hS,eR,xx,ET.n,kT,j6];rw[tI hh i cO,y9 H4,Sg]
 ·intro k o hk;have hS:¬S k:=λe=>by
   rcases hSN k e with h1|h1
   ·omega
   ·exact sL k h1
  simp only[H',aq hS];exact h.fresh k o hk (sL k)
 ·intro k o v hv;by_cases e:S k
  ·simp only[H',aw e]at hv;exact hv
  ·simp only[H',aq e]at hv;exact h.sub k o v hv
end
def L1(m:Nat)(b:Ks):List Ks→Nat→Bool
 |[],_=>true
 |a::l,i=>(m.testBit i|| !sI a b)&&L1 m b l (i+1)
def L2:List Nat→List Ks→List Ks→Bool
 |m::ms,b::bs,done=>L1 m b done 0&&L2 ms bs (done++[b])
 |[],[],_=>true
 |_,_,_=>false
def Sh(ops:List Oper)(ks:List Ks):Bool:=DT ops 0&&L2 (xO ops []) ks []
def Zy(m:Nat)(b:Ks):∀(l:List Ks)(i:Nat),L1 m b l i=Bo m b l i
 |[],_=>rfl
 |a::l,i=>by rw[L1,Bo,Zy m b l,Bool.or_comm]
def Zz:∀(ms:List Nat)(bs done:List Ks),L2 ms bs done=xP ms bs done
 |[],[],_=>rfl
 |[],_::_,_=>rfl
 |_::_,[],_=>rfl
 |m::ms,b::bs,done=>by rw[L2,xP,Zy,Zz ms bs]
def qK{draw:Bool}{ops:List Oper}{ks:List Ks}(h:(!draw||Sh ops ks)=true):(!draw||tK ops ks)=true:=by
 have:Sh ops ks=tK ops ks:=by rw[Sh,tK,Zz]
 rwa[this]at h
def EG(f:FuncId)(first caps:List (Bool×List C)):MP where
 p:=λH v=>∃H0,∃us ws:List Value,cC H0 H∧v= .func (.func f) us.toArray ws.toArray∧dt ⟨H0,jb⟩ first us∧dt ⟨H0,jb⟩ caps ws
 mono:=by rintro H H' v hl ⟨H0,us,ws,h0,h⟩;exact⟨H0,us,ws,h0.trans hl,h⟩
def dt.hJ{g:Gh}{ss:List (Bool×List C)}{vs:List Value}(h:dt g ss vs)(hm:fE ss=[]){H:FH}(hl:cC g.H H)(γ:Nat→Value):dt ⟨H,γ⟩ ss vs:=
 dt.mono (known:=λ_=>False) ⟨hl,λ_ h=>h.elim⟩ (by simp[hm]) h
section
variable{P:Program}{tt:TT}
def akj{n new:Nat}{ops:Array Oper}{i:Nat}{o:Oper}(ho:ops[i]? =some o)(hg:o.guard=none){d:Nat}(hd:o.dst=some d)(aV:d<n){f:FuncId}{first caps:Array Operand}(b9:o.op= .makeFunc (.func f) first caps)
  {st:St} {fs cs:List (Bool×List C)} (hf:rD st first.toList=some fs) (hc:rD st caps.toList=some cs) (h1:fE fs=[]) (h2:fE cs=[]):kY P n ops i st (st.put d (.c (.M (EG f fs cs)))) new (cF (first.toList++caps.toList),[.s d]):=by
 refine⟨(first.toList++caps.toList).flatMap (dQ st),[(.s d,some (.v (.c (.M (EG f fs cs)))))],?_,?_,nV st d _,fR st _,λk hk=>by simpa[fe]using hk⟩
 ·refine uS ho hg hd aV _ _ new ?_;intro F known σ g W a aH bt;obtain⟨D4,_⟩:=GZ aH st _ _ hf (λkx aS=>bt kx (by rw[za];exact fM _ aS));obtain⟨lJ,_⟩:=GZ aH st _ _ hc (λkx aS=>bt kx (by rw[za];exact jY _ aS));refine⟨λj hj=>by simp[AV.aD,C.aD]at hj,.func (.func f) (first.toList.map a.eval).toArray (caps.toList.map a.eval).toArray,?_,g.H,_,_,cC.refl _,ae,D4.hJ h1 (cC.refl _) jb,lJ.hJ h2 (cC.refl _) jb⟩;rw[execOp,b9];have e1:first.map a.eval=(first.toList.map a.eval).toArray:=vX;have e2:caps.map a.eval=(caps.toList.map a.eval).toArray:=vX;simp only[Instr.makeFunc,e1,e2];rfl
 ·intro kx aS;obtain⟨x,_,h⟩:=jE.1 aS;exact fY st x kx h
def Si(c:C)(f:FuncId)(us ws:List AV):Prop:=(c= .V (.func (.func f) ⟨[]⟩ ⟨[]⟩)∧us=[]∧ws=[])∨∃fs cs,c= .M (EG f fs cs)∧wJ fs=some us∧wJ cs=some ws
def ZA{n new:Nat}{ops:Array Oper}{i:Nat}{o:Oper}(ho:ops[i]? =some o)(hg:o.guard=none){d:Nat}(hd:o.dst=some d)(aV:d<n){f:FuncId}{vs:List AV}{r:AV}(hf:aG P f vs r)
  {F:c8} (fW:F.n=n) {Q:Exit→Act→World→Prop} {known:Nat→Prop} {σ:Kn} {g:Gh} {W:World} {a:Act} {K:Act→World→Prop} (dT:¬known new) (aH:bJ F known σ g W a) (hK:∀g' W' a',bJ F (λid=>known id∨id=new) (dC σ [(.s d,some (.v r))]) g' W' a'→K a' W') {us:List Value} (ja:jo ⟨g.H,jb⟩ vs us) (hex:(execOp a.eval o).run P W= .ok (.enter f us.toArray) W):wpOp P ops Q i K a W:=by
 have hc:=hf.spec g.H W us aH.sub ja
 unfold wpOp
 simp only[ho,Region.wanted,hg,cM]
 refine .inl ?_
 unfold Oper.wp
 rw[hex]
 simp only[Oper.upon]
 refine hc.mono ?_
 rintro e W' ⟨v,H',rfl,bU,hle,lK,eI,eJ⟩
 simp only[hd]
 have cR:d<a.tmps.size:=qY
 refine hK ⟨H',g.γ⟩ W' _ (aH.step (chg:=λ_=>False) (g':=⟨H',g.γ⟩) ⟨⟨hle,λ_ _=>rfl⟩,lK,eI,eJ.size,λk hk _=>eJ.block k hk,eJ.os,eJ.tape,eJ.output⟩ _ new dT sc aH.defers ?_ (λ_ h=>h.elim) ?_ ?_ ?_ ?_)
 ·intro t ht;have aN:d≠t:=ts;simp[Act.put,nN aN]
 ·intro t u ht;simp only[a9]at ht;split at ht
  ·rename_i e;simp only[Key.s.injEq]at e;simp only[aO,Info.v.injEq]at ht;subst e;subst ht;have:=bU.hJ hf.hJ (cC.refl _) g.γ;simpa[Act.put,cR]using this
  ·simp at ht
 ·intro id b ht;simp[a9]at ht
 ·intro k y ht;simp only[a9]at ht;split at ht
  ·simp only[aO]at ht;subst ht;intro id al;have:id∈r.aD:=al;rw[hf.hJ]at this;cases this
  ·simp at ht
 ·intro id y ht;simp[a9]at ht
def ZC{n new:Nat}{ops:Array Oper}{i:Nat}{o:Oper}(ho:ops[i]? =some o)(hg:o.guard=none){d:Nat}(hd:o.dst=some d)(aV:d<n){cf:Operand}{args:Array Operand}{di:Array TypeId}(b9:o.op= .call ⟨.value cf,args,di⟩)
  {st:St} {c:C} {f:FuncId} {us ws vs:List AV} {r:AV} (yi:st.ev cf=some (.c c)) (H5:Si c f us ws) (hv:kB st args.toList=some vs) (hm:fH (us++(vs++ws))=[]) (hf:aG P f (us++(vs++ws)) r):kY P n ops i st (st.put d r) new (cF (cf::args.toList),[.s d]):=by
 refine⟨(cf::args.toList).flatMap (dQ st),[(.s d,some (.v r))],?_,?_,nV st d r,fR st _,λk hk=>by simpa[fe]using hk⟩
 ·intro F fW Q known σ g W a K dT aH bt hK;have kv:=zH aH st _ _ hv (λkx aS=>bt kx (by simp only[gJ,bX];exact .inr aS));have zG:=gy aH st cf _ yi (λkx aS=>bt kx (by simp only[gJ,bX];exact .inl aS));have mm:args.map a.eval=(args.toList.map a.eval).toArray:=vX;have mz:fH us=[]∧fH vs=[]∧fH ws=[]:=by rw[XK,XK,FZ,FZ]at hm;exact hm
  rcases H5 with⟨rfl,rfl,rfl⟩|⟨fs,cs,rfl,h1,h2⟩
  ·have zG:a.eval cf= .func (.func f) #[] #[]:=zG;refine ZA ho hg hd aV hf fW dT aH hK (us:=args.toList.map a.eval) ?_ ?_
   ·simpa using kv.hJ (γ:=jb) mz.2.1
   ·rw[execOp,b9];simp only[resolve,zG,Deferred.ofValue,pure_bind,Qo hf.call,mm];simp
  ·obtain⟨H0,fu,fw,hle,tP,nU,p6⟩:=zG;have k1:=KU h1 nU;have k2:=KU h2 p6;have up:∀{xs:List AV}{zs:List Value},jo ⟨H0,jb⟩ xs zs→fH xs=[]→jo ⟨g.H,jb⟩ xs zs:=by
    intro xs;induction xs with
    |nil=>intro zs h _;exact h
    |cons x xs ih=>
     intro zs h hm
     simp only[fH,FZ]at hm
     obtain⟨v,r,rfl,h1,h2⟩:=h
     exact⟨v,r,ae,h1.hJ hm.1 hle jb,ih h2 hm.2⟩
   refine ZA ho hg hd aV hf fW dT aH hK (us:=fu++(args.toList.map a.eval++fw)) ?_ ?_
   ·exact(up k1 mz.1).append ((kv.hJ (γ:=jb) mz.2.1).append (up k2 mz.2.2))
   ·rw[execOp,b9];simp only[resolve,tP,Deferred.ofValue,pure_bind,Qo hf.call,mm];simp
 ·intro kx aS;obtain⟨x,_,h⟩:=jE.1 aS;exact fY st x kx h
def akk{n new:Nat}{ops:Array Oper}{i:Nat}{o:Oper}(ho:ops[i]? =some o)(hg:o.guard=none){d:Nat}(hd:o.dst=some d)(aV:d<n){f:FuncId}{args:Array Operand}{di:Array TypeId}(b9:o.op= .call ⟨.value (.func f),args,di⟩)
  {st:St} {vs DX:List AV} {r:AV} {ids:List Nat} (hv:kB st args.toList=some vs) (hf:aG P f DX r) (hr:∀g g' v,bP g r v→bP g' r v)
  (ZD:∀(F:c8)(known:Nat→Prop)(σ:Kn)(g:Gh)(W:World)(a:Act)(us:List Value),bJ F known σ g W a→(∀kx∈gU st ids,σ kx.1=some kx.2)→jo g vs us→∃HF,Sub HF W∧jo ⟨HF,jb⟩ DX us):
  kY P n ops i st (st.put d r) new (cF args.toList++fp ids,[.s d]):=by
 refine⟨args.toList.flatMap (dQ st)++gU st ids,[(.s d,some (.v r))],?_,?_,nV st d r,?_,λk hk=>by simpa[fe]using hk⟩
 ·intro F fW Q known σ g W a K dT aH bt hK;have kv:=zH aH st _ _ hv (λkx aS=>bt kx (fM _ aS));obtain⟨HF,akl,akm⟩:=ZD F known σ g W a _ aH (λkx aS=>bt kx (jY _ aS)) kv;have hc:=hf.spec HF W _ akl akm;have mm:args.map a.eval=(args.toList.map a.eval).toArray:=vX;have hex:(execOp a.eval o).run P W= .ok (.enter f (args.toList.map a.eval).toArray) W:=by
   have cw:=hf.call;unfold ml at cw;rw[execOp,b9];cases iv:P.funcs[f]? with
   |none=>rw[iv]at cw;simp at cw
   |some fn=>
    rw[iv]at cw
    simp only[eQ,bne_iff_ne,ne_eq]at cw
    have h2:fn.body≠none:=by intro hb;rw[hb]at cw;simp at cw
    simp[resolve,Act.eval,Deferred.ofValue,invoke,callFunc,iv,cw.1,h2]
    exact mm
  unfold wpOp;simp only[ho,Region.wanted,hg,cM];refine .inl ?_;unfold Oper.wp;rw[hex];simp only[Oper.upon];refine hc.mono ?_;rintro e W' ⟨v,H',rfl,bU,hle,lK,eI,eJ⟩;simp only[hd];have cR:d<a.tmps.size:=qY;have akn:Sub g.H W':=by
   intro b o v hv;have h0:=aH.sub b o v hv;have bh:b<W.heap.size:=by
    simp only[World.cell?]at h0;cases hb:W.heap[b]? with
    |none=>rw[hb]at h0;cases h0
    |some x=>exact(jO.1 hb).1
   simp only[World.cell?,eJ.block b bh];exact h0
  refine hK g W' _ (aH.step (chg:=λ_=>False) (g':=g) ⟨⟨cC.refl _,λ_ _=>rfl⟩,λ_ _ _=>rfl,akn,eJ.size,λk hk _=>eJ.block k hk,eJ.os,eJ.tape,eJ.output⟩ _ new dT sc aH.defers ?_ (λ_ h=>h.elim) ?_ ?_ ?_ ?_)
  ·intro t ht;have aN:d≠t:=ts;simp[Act.put,nN aN]
  ·intro t u ht;simp only[a9]at ht;split at ht
   ·rename_i e;simp only[Key.s.injEq]at e;simp only[aO,Info.v.injEq]at ht;subst e;subst ht;have:=hr _ g _ bU;simpa[Act.put,cR]using this
   ·simp at ht
  ·intro id b ht;simp[a9]at ht
  ·intro k y ht;simp only[a9]at ht;split at ht
   ·simp only[aO]at ht;subst ht;intro id al;have:id∈r.aD:=al;rw[hf.hJ]at this;cases this
   ·simp at ht
  ·intro id y ht;simp[a9]at ht
 ·intro kx aS;rcases bX.1 aS with aS|aS
  ·obtain⟨x,_,h⟩:=jE.1 aS;exact fY st x kx h
  ·exact rB st ids kx aS
 ·intro k hk;simp only[dO,dZ,bX]at hk;rcases hk with h|h
  ·exact fM _ (fR st _ k h)
  ·exact jY _ (qf st ids k h)
end
def H6(l:List (Nat×AV))(id:Nat)(T:ET)(x:T.den):List (Nat×AV)→Prop
 |[]=>True
 | (t,v')::r=>((∃v,ao t l=some v∧au v v')∨∃off,ao t l=some (.c (.P id off))∧v'= .c (.E T x off))∧H6 l id T x r
def H6.get{l:List (Nat×AV)}{id:Nat}{T:ET}{x:T.den}:∀{m:List (Nat×AV)},H6 l id T x m→∀{t v'},ao t m=some v'→(∃v,ao t l=some v∧au v v')∨∃off,ao t l=some (.c (.P id off))∧v'= .c (.E T x off)
 |[],_,_,_,h=>by simp[ao]at h
 | (k,x)::m,hw,t,v',h=>by
  simp only[ao]at h;split at h
  ·rename_i e;subst e;cases h;exact hw.1
  ·exact H6.get hw.2 h
def ako(id:Nat){E:TypeId}{bz:Nat}{T:ET}{x:T.den}{sl sl':List (Nat×AV)}{mem mem':List (Nat×aJ)}{nx nx':Nat}{gd gd':List (Nat×Bool)}(hl:ao id mem=some (.box E bz (av T x)))(hs:H6 sl id T x sl')(hm:iM mem mem')(ef:ao id mem'=none)
  (uj:eO (1000000*nx') mem') (qJ:sK (1000000*nx') sl'=true:=by rfl) (eS:Nat.ble 1 nx'=true:=by rfl):Wk ⟨sl,mem,nx,gd⟩ ⟨sl',mem',nx',gd'⟩:=by
 generalize dc:(⟨sl,mem,nx,gd⟩:St)=st
 generalize L3:(⟨sl',mem',nx',gd'⟩:St)=st'
 obtain rfl:sl=st.sl:=AQ
 obtain rfl:mem=st.mem:=AQ
 obtain rfl:sl'=st'.sl:=by rw[←L3]
 obtain rfl:mem'=st'.mem:=by rw[←L3]
 obtain rfl:nx'=st'.nx:=by rw[←L3]
 clear dc L3
 intro F gM g W a h
 have xT:∀id,id<F.k0→kb st' id∧g.γ id=F.γ0 id:=by intro id al;obtain⟨h1,h2⟩:=h.iu id al;refine⟨?_,h2⟩;have h1:id<1000000*st.nx:=h1;show id<1000000*st'.nx;have:=cT eS;omega
 have al:st.kn (.m id)=some (.b (.box E bz (av T x))):=by simp[St.kn,hl]
 obtain⟨b,vs,rest,hγ,hh,hr,hN,hz,_⟩:=h.c9 id _ al
 let H':FH:=λb' o=>if b'=b then(vs++rest)[o]? else g.H b' o
 let g':Gh:=⟨H',g.γ⟩
 have tO:cC g.H H':=by
  intro b' o v hv;by_cases e:b'=b
  ·subst e;rw[hz]at hv;cases hv
  ·simp[H',e,hv]
 have hle:iH (λ_=>True) g g':=⟨tO,λ_ _=>rfl⟩
 have hd:dh H' T x vs:=dh.mono tO T x vs (zo T x vs hr)
 have hH:∀k o,k≠b→H' k o=g.H k o:=λk o hk=>by simp[H',hk]
 have hS:∀t v',st'.kn (.s t)=some (.v v')→((∃v,st.kn (.s t)=some (.v v)∧au v v')∨∃off,st.kn (.s t)=some (.v (.c (.P id off)))∧v'= .c (.E T x off))∧∀id∈v'.aD,id<1000000*st'.nx:=by
  intro t v' e;simp only[St.kn,cq]at e;obtain⟨y,hy,he⟩:=e;cases he;refine⟨?_,zJ qJ t v' hy⟩;rcases hs.get hy with⟨v,hv,hle⟩|⟨off,hv,e⟩
  ·exact .inl ⟨v,by simp[St.kn,hv],hle⟩
  ·exact .inr ⟨off,by simp[St.kn,hv],e⟩
 have hM:∀j b',st'.kn (.m j)=some (.b b')→(∃b,st.kn (.m j)=some (.b b)∧dd b b')∧(j<1000000*st'.nx∧∀i∈b'.aD,i<1000000*st'.nx)∧j≠id:=by intro t v' e;simp only[St.kn,cq]at e;obtain⟨y,hy,he⟩:=e;cases he;obtain⟨v,hv,hle⟩:=hm.get hy;exact⟨⟨v,by simp[St.kn,hv],hle⟩,uj t v' hy,λe=>by subst e;rw[ef]at hy;cases hy⟩
 refine⟨g',h.size,h.defers,?_,?_,?_,?_,?_,?_,h.below,h.le.trans tO,?_,xT⟩
 ·intro t v' e;rcases(hS t v' e).1 with⟨v,hv,H7⟩|⟨off,hv,rfl⟩
  ·exact H7.1 _ _ (bP.mono hle (λ_ _=>trivial) (h.gw t v hv))
  ·obtain⟨b',e1,e2⟩:dk g (.P id off) (a.tmps.getD t undef):=h.gw t _ hv;rw[hγ]at e1;cases e1;refine⟨b,0,vs,by rw[e2];simp,hd,λj hj=>?_⟩;simp only[g',H',cM,eR];rw[FV hj];exact ct hj
 ·intro j b' e;obtain⟨⟨c,hc,eJ⟩,_,aN⟩:=hM j b' e;refine eJ.1 _ _ _ _ ((h.c9 j c hc).D6 hle ah (λ_ _=>trivial) (λk hk=>⟨ae,λo=>?_⟩));have Qp:k≠b:=λe=>aN (by subst e;exact h.inj j id c _ k hc al hk hγ)
  exact hH k o Qp
 ·intro i j b1 b2 k e e' hk du;obtain⟨⟨c,hc,_⟩,_⟩:=hM i b1 e;obtain⟨⟨c',pf,_⟩,_⟩:=hM j b2 e';exact h.inj i j c c' k hc pf hk du
 ·intro k y e i hi;cases k with
  |s t=>
   cases y with
   |v v'=>exact(hS t v' e).2 i hi
   |b b'=>simp only[St.kn,cq]at e;obtain⟨_,_,he⟩:=e;cases he
  |m j=>
   cases y with
   |v v'=>simp only[St.kn,cq]at e;obtain⟨_,_,he⟩:=e;cases he
   |b b'=>exact(hM j b' e).2.1.2 i hi
 ·intro j y e;cases y with
  |v v'=>simp only[St.kn,cq]at e;obtain⟨_,_,he⟩:=e;cases he
  |b b'=>exact(hM j b' e).2.1.1
 ·intro b' o v hv;by_cases e:b'=b
  ·subst e;simp only[g',H',cM]at hv;simp[World.cell?,hh,hv]
  ·simp only[g',H',e,cP]at hv;exact h.sub b' o v hv
 ·intro b' o dm ZE;have:b'≠b:=by
   intro e;subst e;rcases hN with h1|h1
   ·omega
   ·exact ZE h1
  show H' b' o=_;rw[hH b' o this];exact h.fresh b' o dm ZE
def H8(g:Gh)(fm:List (Nat×aJ))(b:Nat):Prop:=∃id bb,ao id fm=some bb∧cN (g.γ id)=some b
def akp(g:Gh)(W:World)(fm:List (Nat×aJ))(r:AV)(e:Ending)(W':World):Prop:=
 ∃v H',e= .returned v∧bP ⟨H',jb⟩ r v∧cC g.H H'∧(∀b o,b<W.heap.size→¬H8 g fm b→H' b o=g.H b o)∧Sub H' W'∧Dw (H8 g fm) W W'
structure EH(P:Program)(f:FuncId)(args:List AV)(fm:List (Nat×aJ))(r:AV):Prop where
 call:ml P f=true
 hJ:r.aD=[]
 spec:∀g W vs,Sub g.H W→jo g args vs→(∀id b,ao id fm=some b→ji (λ_=>True) g W id b)→(∀id b6 b b' k,ao id fm=some b→ao b6 fm=some b'→cN (g.γ id)=some k→cN (g.γ b6)=some k→id=b6)→Calls P f vs.toArray W (akp g W fm r)
def ZF(P:Program)(fn:Func)(r:AV):fA:=λF e a W=>bodyPost P fn (λe W'=>∃v H',e= .returned v∧bP ⟨H',jb⟩ r v∧cC F.H0 H'∧(∀b o,b<F.w0.heap.size→¬F.own b→H' b o=F.H0 b o)∧Sub H' W'∧Dw F.own F.w0 W') e a W
section
variable{P:Program}{tt:TT}{n:Nat}{st:St}
def Sj(aT:cL P tt=true){fn:Func}{rs:List ResultVar}{r' r:AV}(hr:tN tt st rs=some r')(hle:au r' r)(fG:fn.results=rs.toArray:=by rfl)(hm:r.aD=[]:=by rfl):fZ n .ret st (ZF P fn r):=by intro F hF g W a h;obtain⟨u,hu,bU⟩:=Bv aT h fG hr;exact⟨h.defers.trans hF.ds,u,hu,u,g.H,ae,(hle.1 _ _ bU).hJ hm (cC.refl _) jb,h.le,h.fresh,h.sub,h.below⟩
def ZG{f:FuncId}{fn:Func}{c:Code}{args:List AV}{fm:List (Nat×aJ)}{r:AV}(L4:Nat)(hf:P.funcs[f]? =some fn)(hb:fn.body=some c)(hN:fn.ntmps=n)(hle:Nat.ble args.length n=true)(mm:∀id∈fH args,id<1000000*L4)(rE:eO (1000000*L4) fm)(Bx:r.aD=[])(sM:(fn.name != "runtime.NumGoroutine")=true)
  (h:TR P n c ⟨kZ 0 args,fm,L4,[]⟩ (ZF P fn r)):EH P f args fm r:=by
 refine⟨by simp[ml,hf,hb,sM],Bx,?_⟩
 intro g W vs eI bU jK HY
 refine calls_of_wp hf hb ?_
 have hlen:=zK bU
 have hle:=cT hle
 have jz:∀id b,St.kn ⟨kZ 0 args,fm,L4,[]⟩ (.m id)=some (.b b)→ao id fm=some b:=by intro id b e;simp only[St.kn,cq]at e;obtain⟨x,hx,he⟩:=e;cases he;exact hx
 let F:c8:={w0:=W,H0:=g.H,n:=n,own:=H8 g fm,k0:=0}
 refine wp_mono (h F ⟨ae,bK _,ae,ae⟩ g W _ ⟨?_,ae,?_,?_,?_,?_,?_,eI,⟨ae,ae,ae,bF _,λ_ _ _=>rfl⟩,cC.refl _,λ_ _ _ _=>rfl,λ_ h=>absurd h (A3 _)⟩) (λe a W' hq=>hq)
 ·simp[hN,F];omega
 ·intro t v ht;simp only[St.kn,cq]at ht;obtain⟨x,hx,he⟩:=ht;cases he;obtain⟨_,u,hu,hr,_⟩:=pj args vs 0 bU t v hx;have jh:vs[t]? =some u:=C1;have bh:t<vs.length:=(v7.1 jh).1;have:(vs.toArray++Array.replicate (fn.ntmps-vs.toArray.size) undef).getD t undef=u:=by rw[v5,AT FP];simp[jh]
  rw[this];exact hr
 ·intro id b e;have e':=jz id b e;exact(jK id b e').D5 (λk hk=> .inr ⟨id,b,e',hk⟩) ae ae ⟨cC.refl _,λ_ _=>rfl⟩
 ·intro id b6 b b' k e e' h1 h2;exact HY id b6 b b' k (jz id b e) (jz b6 b' e') h1 h2
 ·intro k x e id al;cases k with
  |m j=>
   cases x with
   |v y=>simp only[St.kn,cq]at e;obtain⟨_,_,he⟩:=e;cases he
   |b b=>exact(rE j b (jz j b e)).2 id al
  |s t=>
   simp only[St.kn,cq]at e
   obtain⟨y,hy,he⟩:=e
   subst he
   obtain⟨_,u,_,_,h6⟩:=pj args vs 0 bU t y hy
   exact mm id (h6 id al)
 ·intro id x e;cases x with
  |v y=>simp only[St.kn,cq]at e;obtain⟨_,_,he⟩:=e;cases he
  |b b=>exact(rE id b (jz id b e)).1
def L5{α:Type}{id:Nat}{b:α}:∀{l:List (Nat×α)},ao id l=some b→id∈l.map (·.1)
 |[],h=>by simp[ao]at h
 | (j,x)::l,h=>by
  simp only[ao]at h;split at h
  ·rename_i e;simp[e]
  ·exact v8 _ (L5 h)
def ZH{α:Type}{id:Nat}:∀{l:List (Nat×α)},id∈l.map (·.1)→∃b,ao id l=some b
 |[],h=>by cases h
 | (j,x)::l,h=>by
  simp only[ao];split
  ·exact⟨x,ae⟩
  ·rename_i e;rcases dx.1 h with h|h
   ·exact absurd h.symm e
   ·exact ZH h
def Cc(l:List Nat):∀k,a9 (l.map λid=>((.m id:Key),(none:Option Info))) k=(match k with| .m id=>if id∈l then some none else none| .s _=>none):=by
 induction l with
 |nil=>intro k;cases k<;>simp[a9]
 |cons x l ih=>
  intro k
  simp only[jF,a9]
  cases k with
  |s t=>simp[ih]
  |m id=>
   by_cases e:x=id
   ·subst e;simp
   ·simp only[Key.m.injEq,e,cP,ih,dx];have:¬id=x:=λh=>e h.symm
    simp[this]
def akq{n new:Nat}{ops:Array Oper}{i:Nat}{o:Oper}(ho:ops[i]? =some o)(hg:o.guard=none){d:Nat}(hd:o.dst=some d)(aV:d<n){f:FuncId}{args:Array Operand}{di:Array TypeId}(b9:o.op= .call ⟨.value (.func f),args,di⟩)
  {sl:List (Nat×AV)} {conc fm:List (Nat×aJ)} {nx:Nat} {gd:List (Nat×Bool)} {vs:List AV} {r:AV} (hv:kB ⟨sl,conc++fm,nx,gd⟩ args.toList=some vs) (hf:EH P f vs fm r) (L6:∀id b,ao id fm=some b→ao id conc=none):
  kY P n ops i ⟨sl,conc++fm,nx,gd⟩ ⟨(d,r)::sl,conc,nx,gd⟩ new (cF args.toList++fp (fm.map (·.1)),.s d::(fm.map (·.1)).map .m):=by
 have akr:∀id b,ao id fm=some b→ao id (conc++fm)=some b:=λid b hb=>by rw[yz,L6 id b hb,hb];rfl
 refine⟨args.toList.flatMap (dQ ⟨sl,conc++fm,nx,gd⟩)++gU ⟨sl,conc++fm,nx,gd⟩ (fm.map (·.1)),(.s d,some (.v r))::(fm.map (·.1)).map (λid=>(.m id,none)),?_,?_,?_,?_,?_⟩
 ·intro F fW Q known σ g W a K dT aH bt hK;have kv:=zH aH _ _ _ hv (λkx aS=>bt kx (fM _ aS));have rE:=XD (st:=⟨sl,conc++fm,nx,gd⟩) (ids:=fm.map (·.1)) (σ:=σ) (λkx aS=>bt kx (jY _ aS));have hσ:∀id b,ao id fm=some b→σ (.m id)=some (.b b):=λid b hb=>rE id (L5 hb) b (akr id b hb)
  have hc:=hf.spec g W _ aH.sub kv (λid b hb=>(aH.c9 id b (hσ id b hb)).D5 (λ_ _=>trivial) ae ae ⟨cC.refl _,λ_ _=>rfl⟩) (λid b6 b b' k h1 h2 h3 h4=>aH.inj id b6 b b' k (hσ id b h1) (hσ b6 b' h2) h3 h4);unfold wpOp;simp only[ho,Region.wanted,hg,cM];refine .inl ?_;unfold Oper.wp;have mm:args.map a.eval=(args.toList.map a.eval).toArray:=vX;have hex:(execOp a.eval o).run P W= .ok (.enter f (args.toList.map a.eval).toArray) W:=by
   have cw:=hf.call;unfold ml at cw;rw[execOp,b9];cases iv:P.funcs[f]? with
   |none=>rw[iv]at cw;simp at cw
   |some fn=>
    rw[iv]at cw
    simp only[eQ,bne_iff_ne,ne_eq]at cw
    have h2:fn.body≠none:=by intro hb;rw[hb]at cw;simp at cw
    simp[resolve,Act.eval,Deferred.ofValue,invoke,callFunc,iv,cw.1,h2]
    exact mm
  rw[hex];simp only[Oper.upon];refine hc.mono ?_;rintro e W' ⟨v,H',rfl,bU,hle,lK,eI,eJ⟩;simp only[hd];have cR:d<a.tmps.size:=qY;have oB:iH (λ_=>True) g ⟨H',g.γ⟩:=⟨hle,λ_ _=>rfl⟩;have hN:∀b,H8 g fm b→F.N b:=by rintro b ⟨id,bb,h1,h2⟩;exact((aH.c9 id bb (hσ id bb h1)).block h2).1
  have hM:∀j b,dC σ ((.s d,some (.v r))::(fm.map (·.1)).map (λid=>(.m id,none))) (.m j)=some (.b b)→σ (.m j)=some (.b b)∧∀k,cN (g.γ j)=some k→¬H8 g fm k:=by
   intro j b hb;simp only[dC,a9,reduceCtorEq,cP,Cc]at hb;by_cases e:j∈fm.map (·.1)
   ·rw[aw e]at hb;cases hb
   ·rw[aq e]at hb;refine⟨hb,λk hk=>?_⟩;rintro⟨id,bb,h1,h2⟩;have:=aH.inj j id b bb k hb (hσ id bb h1) hk h2;subst this;exact e (L5 h1)
  refine hK ⟨H',g.γ⟩ W' _ ⟨by simp[Act.put,aH.size],aH.defers,?_,?_,?_,?_,?_,eI,?_,aH.le.trans hle,?_,λid al=>⟨.inl (aH.iu id al).1,(aH.iu id al).2⟩⟩
  ·intro t u ht;simp only[dC,a9,Cc]at ht;by_cases e:d=t
   ·subst e;simp only[cM,aO,Info.v.injEq]at ht;subst ht;have:=bU.hJ hf.hJ (cC.refl _) g.γ;simpa[Act.put,cR]using this
   ·have e':¬(Key.s d=Key.s t):=λh=>e cd
    simp only[e',cP]at ht;have hv:(a.put (some d) v).tmps.getD t undef=a.tmps.getD t undef:=by simp[Act.put,nN e]
    rw[hv];exact bP.mono oB (λ_ _=>trivial) (aH.gw t u ht)
  ·intro j b hb;obtain⟨h1,h2⟩:=hM j b hb;have jK:=aH.c9 j b h1;refine jK.D6 oB ah (λ_ _=>trivial) (λk hk=>?_);have bh:=(jK.block hk).2;exact⟨eJ.block k bh (h2 k hk),λo=>lK k o bh (h2 k hk)⟩
  ·intro j j' b b' k hb dm h1 h2;exact aH.inj j j' b b' k (hM j b hb).1 (hM j' b' dm).1 h1 h2
  ·intro k x hx id al;cases k with
   |s t=>
    simp only[dC,a9,Cc]at hx
    by_cases e:d=t
    ·subst e;simp only[cM,aO]at hx;subst hx;have:id∈r.aD:=al;rw[hf.hJ]at this;cases this
    ·have e':¬(Key.s d=Key.s t):=λh=>e cd
     simp only[e',cP]at hx;exact .inl (aH.aD _ _ hx id al)
   |m j=>
    simp only[dC,a9,reduceCtorEq,cP,Cc]at hx
    by_cases e:j∈fm.map (·.1)
    ·rw[aw e]at hx;cases hx
    ·rw[aq e]at hx;exact .inl (aH.aD _ _ hx id al)
  ·intro j x hx;simp only[dC,a9,reduceCtorEq,cP,Cc]at hx;by_cases e:j∈fm.map (·.1)
   ·rw[aw e]at hx;cases hx
   ·rw[aq e]at hx;exact .inl (aH.fy _ _ hx)
  ·refine⟨eJ.os.trans aH.below.os,eJ.tape.trans aH.below.tape,eJ.output.trans aH.below.output,dG aH.below.size eJ.size,λk hk ef=>?_⟩;have bh:k<W.heap.size:=kl hk aH.below.size;rw[←aH.below.block k hk ef];refine eJ.block k bh (λho=>?_);rcases hN k ho with h1|h1
   ·omega
   ·exact ef h1
  ·intro k o hk ef;have bh:k<W.heap.size:=kl hk aH.below.size;show H' k o=_;rw[lK k o bh (λho=>?_)]
   ·exact aH.fresh k o hk ef
   ·rcases hN k ho with h1|h1
    ·omega
    ·exact ef h1
 ·intro kx aS;rcases bX.1 aS with aS|aS
  ·obtain⟨x,_,h⟩:=jE.1 aS;exact fY _ x kx h
  ·exact rB _ _ kx aS
 ·funext k;cases k with
  |s t=>
   simp only[dC,a9,Cc,St.kn,ao]
   by_cases e:d=t
   ·simp[e]
   ·have e':¬(Key.s d=Key.s t):=λh=>e cd
    simp[e,e']
  |m j=>
   simp only[dC,a9,reduceCtorEq,cP,Cc,St.kn]
   by_cases e:j∈fm.map (·.1)
   ·rw[aw e];obtain⟨b,hb⟩:=ZH e;simp[L6 j b hb]
   ·rw[aq e];show _=Option.map Info.b (ao j (conc++fm));rw[yz];cases h1:ao j fm with
    |some b=>exact absurd (L5 h1) e
    |none=>rw[Option.or_none]
 ·intro k hk;simp only[dO,dZ,bX]at hk;rcases hk with h|h
  ·exact fM _ (fR _ _ k h)
  ·exact jY _ (qf _ _ k h)
 ·intro k hk;simp only[fe,jF,dx,List.map_map]at hk;rcases hk with h|h
  ·exact dx.2 (.inl h)
  ·refine dx.2 (.inr ?_);simpa[Function.comp]using h
end
end Go.El
namespace Go.El
open Go Go.RowKit Go.Proofs
def eX(o:Nat)(E0:TypeId)(r:Nat)(E:TypeId)(T:ET)(f:Nat→List T.den):List (Nat×aJ):=(o,.box E0 0 ((List.range r).map λi=> .X (1+i)))::gj r E T f
def bH{α:Type}{k t:Nat}{x:α}{l:List (Nat×α)}(h:k≠t):ao t ((k,x)::l)=ao t l:=by simp only[ao,aq h]
def Cd{α:Type}{t:Nat}{x:α}{l:List (Nat×α)}:ao t ((t,x)::l)=some x:=by simp only[ao,aw]
def Sk{K o:Nat}{E0:TypeId}{r:Nat}{E:TypeId}{T:ET}{f:Nat→List T.den}(ho:o<K)(hr:1+r≤K):nw K (eX o E0 r E T f)=true:=by simp only[eX,nw,aJ.aD,eQ];refine⟨⟨VY ho,Zx λc hc id al=>?_⟩,akg hr⟩;obtain⟨i,hi,rfl⟩:=nQ.1 hc;have:=kR.1 hi;simp only[C.aD,jw]at al;omega
def iy{st:St}{sl':List (Nat×AV)}{conc:List (Nat×aJ)}{nx':Nat}{gd':List (Nat×Bool)}{o:Nat}{E0:TypeId}{r:Nat}{E:TypeId}{T:ET}{f:Nat→List T.den}(hs:xS st.sl sl')(hm:iM st.mem conc)
  (EI:ao o st.mem=some (.box E0 0 ((List.range r).map λi=> .X (1+i)))) (hf:∀i,i<r→ao (1+i) st.mem=some (.vec E T (f i))) (hr:r≤900) (hb:(sK (1000000*nx') sl'&&nw (1000000*nx') conc&&Nat.ble 1 nx'&&Nat.blt o (1000000*nx'))=true:=by rfl):Wk st ⟨sl',conc++eX o E0 r E T f,nx',gd'⟩:=by
 simp only[eQ]at hb
 obtain⟨⟨⟨h1,h2⟩,h3⟩,h4⟩:=hb
 have rj:o<1000000*nx':=cT h4
 have wu:=cT h3
 refine wk hs (iM.app hm ⟨⟨_,EI,dd.refl _⟩,iM.gj hf⟩) ?_
 simp only[eQ,zd]
 exact⟨⟨h1,Se h2 (Sk rj af)⟩,.inl h3⟩
def Sl(id:Nat)(T:ET)(xs:List T.den):∀a b:List (Nat×aJ),mX id T xs (a++b)=mX id T xs a++mX id T xs b
 |[],_=>rfl
 | (j,x)::a,b=>by
  simp only[mQ,mX];split
  ·exact Sl id T xs a b
  ·rw[Sl id T xs a b];rfl
def ZI{id:Nat}{T:ET}{xs:List T.den}:∀{L:List Nat},(∀i∈L,1+i≠id)→xY id T xs (L.map λi=>C.X (1+i))=L.map λi=>C.X (1+i)
 |[],_=>rfl
 |i::L,h=>by simp only[jF,xY,xX];rw[aq (h i be),ZI λj hj=>h j (by simp[hj])]
def ZJ{id:Nat}{T':ET}{xs:List T'.den}{E:TypeId}{T:ET}{f:Nat→List T.den}:∀{L:List Nat},(∀i∈L,1+i≠id)→mX id T' xs (L.map λi=>(1+i,aJ.vec E T (f i)))=L.map λi=>(1+i,aJ.vec E T (f i))
 |[],_=>rfl
 |i::L,h=>by simp only[jF,mX,GR];rw[aq (h i be),ZJ λj hj=>h j (by simp[hj])]
def aks{id:Nat}{T':ET}{xs:List T'.den}{o:Nat}{E0:TypeId}{r:Nat}{E:TypeId}{T:ET}{f:Nat→List T.den}(ho:o≠id)(al:1000≤id)(hr:r≤900):mX id T' xs (eX o E0 r E T f)=eX o E0 r E T f:=by
 have aN:∀i∈List.range r,1+i≠id:=λi hi=>by have:=kR.1 hi;omega
 unfold eX gj;simp only[mX,aq ho,GR];rw[ZI aN,ZJ aN]
section
variable{n:Nat}{Q:fA}
def H9(id:Nat){E1:TypeId}{T1:ET}{xs:List T1.den}{c:Code}{sl:List (Nat×AV)}{conc:List (Nat×aJ)}{nx:Nat}{gd:List (Nat×Bool)}{o:Nat}{E0:TypeId}{r:Nat}{E:TypeId}{T:ET}{f:Nat→List T.den}(hl:ao id (conc++eX o E0 r E T f)=some (.vec E1 T1 xs)){sl':List (Nat×AV)}{ZK:List (Nat×aJ)}(hs:wI id T1 xs sl=sl')(hm:mX id T1 xs conc=ZK)(hr:r≤900)
  (h:TR Tryz.prog n c ⟨sl',ZK++eX o E0 r E T f,nx,gd⟩ Q) (ho:(Nat.ble 1000 id&& !Nat.beq o id)=true:=by rfl):TR Tryz.prog n c ⟨sl,conc++eX o E0 r E T f,nx,gd⟩ Q:=by
 simp only[eQ,JW]at ho
 have h1:=cT ho.1
 have h2:o≠id:=λe=>by rw[e,O5]at ho;cases ho.2
 refine fS id hl hs ae ?_
 rw[Sl,hm,aks h2 h1 hr]
 exact h
end
section
variable{n:Nat}{sl sl':List (Nat×AV)}{mem mem':List (Nat×aJ)}{nx:Nat}{gd gd':List (Nat×Bool)}{ops:Array Oper}{draw:Bool}{p:Pr}{ks cj:List Ks}{i i' n0 b7:Nat}{os cE:List Oper}{d:Nat}{ty:TypeId}{pos:String}{cJ:Array Edge}{R:St→Prop}
def rk(k:Nat){o:Oper}(h:runs eB n nx draw ops.toList (os.take k) i ⟨sl,mem,n0,gd⟩ .t ks=([],i',⟨sl',mem',b7,gd'⟩,p,cj))(R9:os.drop k=o::cE)(hk:RG Tryz.prog n ops draw nx i' (o::cE) ⟨sl',mem',b7,gd'⟩ cj R)
  (hp:p:=by first|trivial| (simp only[Pr.an,Pr.h,num,aA,true_and,and_true];first|done|omega)):RG Tryz.prog n ops draw nx i os ⟨sl,mem,n0,gd⟩ ks R:=aj9 ar k h hp R9 hk
def iR{op:Op}{x:AV}{pm:Pr}(h:runs eB n nx draw ops.toList os i ⟨sl,mem,n0,gd⟩ .t ks=(⟨some d,op,ty,pos,cJ,none⟩::cE,i',⟨sl',mem',b7,gd'⟩,p,cj))(he:GX eB ⟨sl',mem',b7,gd'⟩ op=some (x,pm))(jI:pm)
  (hk:RG Tryz.prog n ops draw nx (i'+1) cE ⟨(d,x)::sl',mem',b7,gd'⟩ (fi draw cj (cF op.operands.toList,[.s d])) R)
  (hp:p:=by first|trivial| (simp only[Pr.an,Pr.h,num,aA,true_and,and_true];first|done|omega)) (aV:Nat.blt d n=true:=by rfl):RG Tryz.prog n ops draw nx i os ⟨sl,mem,n0,gd⟩ ks R:=
 jB ar h hp (akb ar he jI hk aV)
end
def Sn(c:C):∀m,x4 [c] m=List.replicate m c
 |0=>rfl
 |m+1=>by rw[x4,Sn c m];rfl
def akt{F:c8}{known:Nat→Prop}{σ:Kn}{g:Gh}{W:World}{a:Act}(h:bJ F known σ g W a){o r:Nat}{E0:TypeId}{bz:Nat}{E:TypeId}{T:ET}{f:Nat→List T.den}(ho:σ (.m o)=some (.b (.box E0 bz ((List.range r).map λi=> .X (1+i)))))(hf:∀i,i<r→σ (.m (1+i))=some (.b (.vec E T (f i))))(hr:r≤140737488355328):
  ∃HF,cC g.H HF∧Sub HF W∧∀k len cap v,dk g (.L o k len (some cap)) v→k+len≤r→len≤cap→nn (dh HF (.sl T)) 1 HF ((List.range len).map λi=>f (k+i)) v:=by
 obtain⟨b,vs,rest,hγ,hh,kA,hN,hz,_⟩:=h.c9 o _ ho
 have jK:=λi(hi:i<r)=>h.c9 (1+i) (.vec E T (f i)) (hf i hi)
 let S:Nat→Prop:=λk=>k=b∨∃i,i<r∧cN (g.γ (1+i))=some k
 have Sf:∀k,S k→∀o,g.H k o=none:=by
  rintro k (rfl|⟨i,hi,hk⟩) o
  ·exact hz o
  ·rcases jK i hi with⟨e,_⟩|⟨b2,cap,us,e,_,_,_,_,_,_,zC⟩
   ·rw[e]at hk;cases hk
   ·rw[e]at hk;simp only[cN,aO]at hk;subst hk;exact zC o
 classical
 let H':FH:=λk o=>if S k then W.cell? ⟨k,o,none⟩else g.H k o
 have hle:cC g.H H':=by
  intro k o v hv;by_cases e:S k
  ·rw[Sf k e o]at hv;cases hv
  ·simp only[H',aq e];exact hv
 have j9:=kA.length
 simp only[dJ,A1]at j9
 refine⟨H',hle,?_,?_⟩
 ·intro k o v hv;by_cases e:S k
  ·simp only[H',aw e]at hv;exact hv
  ·simp only[H',aq e]at hv;exact h.sub k o v hv
 ·rintro k len cap v ⟨b',fl,zX⟩ L7 So;rw[hγ]at fl;simp only[aO]at fl;subst fl;refine⟨some ⟨b,k,none⟩,cap,by rw[zX];simp,by simpa using So,by simp only[dJ,A1];omega,?_⟩;by_cases h0:len=0
  ·subst h0;exact .inl ae
  refine .inr ⟨b,k,ae,λi hi=>?_⟩;have o0:i<len:=by simpa using hi
  have BM:k+i<r:=af;have zM:((List.range r).map λi=>C.X (1+i))[k+i]? =some (.X (1+(k+i))):=by simp[BM]
  obtain⟨w,hw,zy⟩:=bS.get kA zM;have EF:w=g.γ (1+(k+i)):=zy;refine⟨[w],ae,?_,?_⟩
  ·simp only[si,A0];refine⟨w,ae,?_⟩;rw[EF];rcases jK (k+i) BM with⟨e,e2⟩|⟨b2,cap,us,e,e2,e3,e4,e5,e6,e7,e8⟩
   ·rw[e,e2];exact⟨none,0,ae,by simp,by simp,.inl ae⟩
   ·refine⟨some ⟨b2,0,none⟩,cap,e,e4,e5,?_⟩;by_cases hx:f (k+i)=[]
    ·exact .inl hx
    refine .inr ⟨b2,0,ae,λq hq=>⟨(us.drop (q*T.n)).take T.n,dh.length T _ _ (e6 q hq),dh.mono hle T _ _ (e6 q hq),λj hj=>?_⟩⟩;have hS:S b2:= .inr ⟨k+i,BM,by rw[e];rfl⟩;have dL:(q+1)*T.n≤cap*T.n:=dY _ af;rw[fP,iZ]at dL;simp only[fD,F']at hj;simp only[H',aw hS,eR,uJ,we];exact tI e2 _ af
  ·intro j hj;have Cb:j=0:=yZ;subst Cb;have hS:S b:= .inl ae;have H4:k+i<vs.length:=af;have Sg:vs[k+i]=w:=by rw[ct H4]at hw;exact Gc hw
   simp only[H',aw hS,xx,kT,j6];rw[tI hh (k+i) cO,y9 H4,Sg]
section
variable{n:Nat}{Q:fA}{sl sl':List (Nat×AV)}{mem mem':List (Nat×aJ)}{nx:Nat}{gd gd':List (Nat×Bool)}{ops:Array Oper}{draw:Bool}{p:Pr}{ks cj:List Ks}{i i' n0 b7:Nat}{os cE:List Oper}{d:Nat}{ty:TypeId}{pos:String}{cJ:Array Edge}{R:St→Prop}
def L8{f:FuncId}{first caps:Array Operand}{fs cs:List (Bool×List C)}(h:runs eB n nx draw ops.toList os i ⟨sl,mem,n0,gd⟩ .t ks=(⟨some d,.makeFunc (.func f) first caps,ty,pos,cJ,none⟩::cE,i',⟨sl',mem',b7,gd'⟩,p,cj))(hf:rD ⟨sl',mem',b7,gd'⟩ first.toList=some fs)(hc:rD ⟨sl',mem',b7,gd'⟩ caps.toList=some cs)
  (hk:RG Tryz.prog n ops draw nx (i'+1) cE ⟨(d,.c (.M (EG f fs cs)))::sl',mem',b7,gd'⟩ (fi draw cj (cF (first.toList++caps.toList),[.s d])) R) (h1:fE fs=[]:=by rfl) (h2:fE cs=[]:=by rfl)
  (hp:p:=by first|trivial| (simp only[Pr.an,Pr.h,num,aA,true_and,and_true];first|done|omega)) (aV:Nat.blt d n=true:=by rfl):RG Tryz.prog n ops draw nx i os ⟨sl,mem,n0,gd⟩ ks R:=
 jB ar h hp (kM (λho=>akj ho ae ae (cT aV) ae hf hc h1 h2) (jA hk))
def Ce{cf:Operand}{args:Array Operand}{di:Array TypeId}{c:C}{f:FuncId}{us ws vs:List AV}{r:AV}(h:runs eB n nx draw ops.toList os i ⟨sl,mem,n0,gd⟩ .t ks=(⟨some d,.call ⟨.value cf,args,di⟩,ty,pos,cJ,none⟩::cE,i',⟨sl',mem',b7,gd'⟩,p,cj))(yi:St.ev ⟨sl',mem',b7,gd'⟩ cf=some (.c c))(H5:Si c f us ws)(hv:kB ⟨sl',mem',b7,gd'⟩ args.toList=some vs)(hf:aG Tryz.prog f (us++(vs++ws)) r)
  (hk:RG Tryz.prog n ops draw nx (i'+1) cE ⟨(d,r)::sl',mem',b7,gd'⟩ (fi draw cj (cF (cf::args.toList),[.s d])) R) (hm:fH (us++(vs++ws))=[]:=by rfl)
  (hp:p:=by first|trivial| (simp only[Pr.an,Pr.h,num,aA,true_and,and_true];first|done|omega)) (aV:Nat.blt d n=true:=by rfl):RG Tryz.prog n ops draw nx i os ⟨sl,mem,n0,gd⟩ ks R:=
 jB ar h hp (kM (λho=>ZC ho ae ae (cT aV) ae yi H5 hv hm hf) (jA hk))
def Sp{j tg:Nat}{want b:Bool}{cf:Operand}{args:Array Operand}{di:Array TypeId}{c:C}{f:FuncId}{us ws vs:List AV}{r:AV}(h:runs eB n nx draw ops.toList os i ⟨sl,mem,n0,gd⟩ .t ks=(⟨some d,.call ⟨.value cf,args,di⟩,ty,pos,cJ,some (j,want)⟩::cE,i',⟨sl',mem',b7,gd'⟩,p,cj))(hj:wD ops.toList j=some tg)(hb:ao tg sl'=some (.c (.B b)))(uV:b=want)(yi:St.ev ⟨sl',mem',b7,gd'⟩ cf=some (.c c))(H5:Si c f us ws)(hv:kB ⟨sl',mem',b7,gd'⟩ args.toList=some vs)(hf:aG Tryz.prog f (us++(vs++ws)) r)
  (hk:RG Tryz.prog n ops draw nx (i'+1) cE ⟨(d,r)::sl',mem',b7,gd'⟩ (fi draw cj (.s tg::cF (cf::args.toList),[.s d])) R) (hm:fH (us++(vs++ws))=[]:=by rfl)
  (hp:p:=by first|trivial| (simp only[Pr.an,Pr.h,num,aA,true_and,and_true];first|done|omega)) (aV:Nat.blt d n=true:=by rfl):RG Tryz.prog n ops draw nx i os ⟨sl,mem,n0,gd⟩ ks R:=
 jB ar h hp (kM (λho=>KA ho ae hj hb uV (ZC (ops:= #[⟨some d,.call ⟨.value cf,args,di⟩,ty,pos,cJ,none⟩]) (i:=0) ae ae ae (cT aV) ae yi H5 hv hm hf)) (jA hk))
def ZL{f:FuncId}{args:Array Operand}{di:Array TypeId}{o r k len cap:Nat}{E0:TypeId}{bz:Nat}{E:TypeId}{T:ET}{F:Nat→List T.den}{m:MP}{z:C}(h:runs eB n nx draw ops.toList os i ⟨sl,mem,n0,gd⟩ .t ks=(⟨some d,.call ⟨.value (.func f),args,di⟩,ty,pos,cJ,none⟩::cE,i',⟨sl',mem',b7,gd'⟩,p,cj))(hv:kB ⟨sl',mem',b7,gd'⟩ args.toList=some [.c (.L o k len (some cap)),.c (.M m)])
  (ho:ao o mem'=some (.box E0 bz ((List.range r).map λi=> .X (1+i)))) (hF:∀i,i<r→ao (1+i) mem'=some (.vec E T (F i))) (hr:r≤140737488355328) (L7:k+len≤r) (So:len≤cap)
  (hf:aG Tryz.prog f [cS (.sl T) ((List.range len).map λi=>F (k+i)),.c (.M m)] (.c z)) (hz:∀g g' v,dk g z v→dk g' z v)
  (hk:RG Tryz.prog n ops draw nx (i'+1) cE ⟨(d,.c z)::sl',mem',b7,gd'⟩ (fi draw cj (cF args.toList++fp (o::(List.range r).map λi=>1+i),[.s d])) R)
  (hp:p:=by first|trivial| (simp only[Pr.an,Pr.h,num,aA,true_and,and_true];first|done|omega)) (aV:Nat.blt d n=true:=by rfl):RG Tryz.prog n ops draw nx i os ⟨sl,mem,n0,gd⟩ ks R:=by
 refine jB ar h hp (kM (λb9=>akk b9 ae ae (cT aV) ae hv hf hz (ids:=o::(List.range r).map λi=>1+i) ?_) (jA hk))
 intro Fx known σ g W a us aH bt ja
 have rE:=XD (st:=⟨sl',mem',b7,gd'⟩) (ids:=o::(List.range r).map λi=>1+i) (σ:=σ) bt
 obtain⟨HF,h1,h2,h3⟩:=akt aH (rE o be _ ho) (λi hi=>rE (1+i) (v8 _ (nQ.2 ⟨i,kR.2 hi,ae⟩)) _ (hF i hi)) hr
 refine⟨HF,h2,?_⟩
 obtain⟨u1,r1,rfl,k1,u2,r2,rfl,k2,k3⟩:=ja
 exact⟨u1,_,ae,h3 k len cap u1 k1 L7 So,u2,r2,ae,m.mono _ _ _ h1 k2,k3⟩
def rcc{f:FuncId}{args:Array Operand}{di:Array TypeId}{conc fm:List (Nat×aJ)}{vs:List AV}{r:AV}(h:runs eB n nx draw ops.toList os i ⟨sl,mem,n0,gd⟩ .t ks=(⟨some d,.call ⟨.value (.func f),args,di⟩,ty,pos,cJ,none⟩::cE,i',⟨sl',conc++fm,b7,gd'⟩,p,cj))(hv:kB ⟨sl',conc++fm,b7,gd'⟩ args.toList=some vs)(hf:EH Tryz.prog f vs fm r)(L6:∀id b,ao id fm=some b→ao id conc=none)
  (hk:RG Tryz.prog n ops draw nx (i'+1) cE ⟨(d,r)::sl',conc,b7,gd'⟩ (fi draw cj (cF args.toList++fp (fm.map (·.1)),.s d::(fm.map (·.1)).map .m)) R)
  (hp:p:=by first|trivial| (simp only[Pr.an,Pr.h,num,aA,true_and,and_true];first|done|omega)) (aV:Nat.blt d n=true:=by rfl):RG Tryz.prog n ops draw nx i os ⟨sl,mem,n0,gd⟩ ks R:=
 jB ar h hp (kM (λho=>akq ho ae ae (cT aV) ae hv hf L6) (jA hk))
end
end Go.El
