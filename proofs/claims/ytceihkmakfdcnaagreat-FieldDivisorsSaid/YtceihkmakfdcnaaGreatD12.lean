/- Plain: the factors modulo p with their multiplicities. Own work; no condition. -/
import Derived.Test.YtceihkmakfdcnaaGreatD11
import Derived.Test.YtceihkmakfdcnaaGreatD5
import Derived.Test.YtceihkmakfdcnaaGreatD8
import Derived.Test.YtceihkmakfdcnaaGreatD9
import Derived.Test.YtceihkmakfdcnaaGreatD7
set_option linter.all false
set_option maxHeartbeats 16000000
set_option maxRecDepth 100000
open Go.El renaming cS->I,rr->N,re->z,du->j,jd->r,cI->R,rb->F
open Go.IntKind renaming wrap->ay
open Go.Proofs.Tryz renaming prog->q
open Int renaming toNat->af,natAbs->aC,natAbs_mul_self'->aqF
open List renaming length->Z,getD->E,range->bX,take->c,getLast_eq_getElem->aqV
open List.Pairwise renaming nil->JK
open Nat renaming div_le_div_left->aq0
open Rat renaming divInt->jI
open _root_ renaming Nat->Y,List->V,Int->G,Rat->e
namespace Go.El
open Go Go.Proofs Go.RowKit Fx
abbrev MT:ET:= .pr (.sl aw) np
def iU(p:Y):V (V G×G)->Fx p
 |[]=>1
 |x::l=>pk (fx x.1) (af x.2)*iU p l
def aeq(p:Y)(x:V G×G):∀l,iU p (l++[x])=iU p l*pk (fx x.1) (af x.2)
 |[]=>by show pk (fx x.1) (af x.2)*1=1*pk (fx x.1) (af x.2);rw[mul_one,one_mul]
 |y::l=>by rw[m7,iU,iU,aeq p x l,mul_assoc]
def pull(p:Y)(g:V G):Y->V G->Y->V G×Y
 |0,f,n=>(f,n)
 |k+1,f,n=>if(aS f g p).2=[]then pull p g k (aS f g p).1 (n+1)else(f,n)
def aer{p:Y}(H:br p){g:V G}(a:Mon p g)(m:2<=Z g):∀(k:Y)(f:V G)(n:Y),Z f<k->Mon p f->Mon p (pull p g k f n).1/\(fx f:Fx p)*pk (fx g) n=fx (pull p g k f n).1*pk (fx g) (pull p g k f n).2/\¬(fx g:Fx p)∣fx (pull p g k f n).1/\n<=(pull p g k f n).2/\((fx g:Fx p)∣fx f->n+1<=(pull p g k f n).2/\(pull p g k f n).1.length<Z f)/\(pull p g k f n).1.length<=Z f
 |0,_,_,i,_=>by omega
 |k+1,f,n,i,d=>by
  rw[pull];split
  .rename_i o;have l:=(NR H d.c a.c a.ne).1 o;have t:=zE H d.c a.c a.ne l;have s:Z g<=Z f:=by have:=jJ H l<|d.kH H;rwa[dc a.c,dc d.c]at this
   have u:=TU H d a s;let ⟨_,_,_,_,_,v⟩:=mi H.hp H.le d.c.1 a.c a.ne;have x:(aS f g p).1.length<Z f:=O;let ⟨i1,i2,i3,i4,i5,i6⟩:=aer H a m k (aS f g p).1 (n+1) O u;refine⟨i1,?_,i3,O,λ_=>⟨O,O⟩,O⟩;rw[<-i2,t,pk];ac_rfl
  .rename_i o;have l:¬(fx g:Fx p)∣fx f:=λi=>o ((NR H d.c a.c a.ne).2 i)
   exact⟨d,J,l,aO _,λi=>absurd i l,aO _⟩
structure u5(p:Y)(a:Fx p)(f:V G)(m:Y)(l:V (V G×G)):Prop where
 aJ:Mon p f
 prod:a=pk (fx f) m*iU p l
 fI:∀x∈l,Mon p x.1/\2<=x.1.length/\bq (fx x.1:Fx p)/\1<=x.2
 nd:∀x∈l,¬(fx x.1:Fx p)∣fx f
 ds:l.Pairwise λx y=>x.1≠y.1
 m1:1<=m
def Vh{p:Y}(H:br p){Q:Fx p}(a:2<=sz Q):∀m,m+1<=sz (pk Q m)
 |0=>by rw[pk,r7 H];exact aO _
 |m+1=>by
  have d:Q≠0:=λe=>by rw[e,k8 H.pos]at a;omega
  have f:=eh H (Cm H d m) d;have g:=Vh H a m;rw[pk];omega
def aes{p:Y}(H:br p):∀{l:V (V G×G)},(∀x∈l,Mon p x.1/\2<=Z x.1/\1<=x.2)->iU p l≠0/\Z l+1<=sz (iU p l)/\∀x∈l,x.2+1<=sz (iU p l)
 |[],_=>⟨qK H,by rw[iU,r7 H];exact aO _,λx hx=>by cases hx⟩
 |y::l,d=>by
  let ⟨a,h2,g⟩:=aes H (l:=l) λx hx=>d x mB
  let ⟨m1,i,k⟩:=d y az;have f:(fx y.1:Fx p)≠0:=m1.kH H;have m:=Vh H (show 2<=sz (fx y.1:Fx p)by rw[dc m1.c];exact i)<|af y.2;have n:=eh H (Cm H f<|af y.2) a;have o:=fq H.pos a;refine⟨nW H (Cm H f _) a,?_,λx hx=>?_⟩
  .rw[iU,ik];omega
  .rw[iU];rcases b9.1 hx with rfl|hx
   .omega
   .have:=g x hx;omega
def u5.bounds{p}(H:br p){g}{f}{m}{l}(a:u5 p g f m l):Z l+1<=sz g/\(∀x∈l,x.2+1<=sz g)/\(2<=Z f->m+1<=sz g):=by
 let ⟨i,h2,k⟩:=aes H (l:=l) λx d=>⟨(a.fI x d).1,(a.fI x d).2.1,(a.fI x d).2.2.2⟩
 have n:=eh H (Cm H (a.aJ.kH H) m) i;have s:=fq H.pos<|Cm H (a.aJ.kH H) m;rw[<-a.prod]at n;refine⟨O,λx d=>by have:=k x d;omega,λo=>?_⟩;have t:=Vh H (show 2<=sz (fx f:Fx p)by rw[dc a.aJ.c];exact o) m;omega
def u5.start{p:Y}{f:V G}(d:Mon p f):u5 p (fx f) f 1 [] where
 aJ:=d
 prod:=by rw[r6,iU,mul_one]
 fI:=λx a=>by cases a
 nd:=λx a=>by cases a
 ds:=JK
 m1:=aO _
def jD(p n:Y):Y:=(n+p-1)/p
def aet{p}(H:br p){f}(k:Mon p f)(M:2<=Z f)(u:bC (fx f:Fx p)=0):Mon p (mV p f<|jD p<|Z f)/\(fx f:Fx p)=pk (fx<|mV p f<|jD p<|Z f) p/\2<=Z (mV p f<|jD p<|Z f)/\Z (mV p f<|jD p<|Z f)<Z f:=by
 have l:=H.hp.1;have a:Z (mV p f<|jD p<|Z f)=jD p (Z f):=by simp[mV]
 have m:Z f<=jD p (Z f)*p:=by unfold jD;have:=rC (Z f+p-1) p;have:=fS (Z f+p-1) (O:0<p);rw[gG];omega
 have n:=Fx.de H u m;have v:(Z f-1)%p=0:=eZ λP=>by
  have y:=mk_eq.1 (u:mk (qV<|ps f) (xW<|bp.ps p f)=mk 0 (bp.zero p));have x:=y.at<|Z f-2;rw[PS.mO,gZ]at x;have A:((Z f-2:Y):G)+1=((Z f-1:Y):G):=O;have B:qV (ps f) (Z f-2)=((Z f-1:Y):G)*1:=by show(((Z f-2:Y):G)+1)*E f (Z f-2+1) 0=_;rw[A,(O:Z f-2+1=Z f-1),k.one]
  rw[B,ns]at x;omega
 obtain⟨t,C⟩:∃t,Z f-1=t*p:=⟨(Z f-1)/p,by have:=rC (Z f-1) p;rw[gG];omega⟩;have o:jD p (Z f)=t+1:=by unfold jD;rw[(O:Z f+p-1=t*p+p),(GS:t*p+p=(t+1)*p)];exact R1 _ O
 have K:1<=t:=by
  rcases qD t with e|e
  .subst e;omega
  .exact e
 have L:t*2<=t*p:=fN t l;have d:∀i,E (mV p f<|jD p<|Z f) i 0=if i<jD p (Z f)then E f (i*p) 0 else 0:=λi=>by
  by_cases s:i<jD p (Z f)
  .rw[b s];exact ap8 _ s
  .rw[w s,fp _ O]
 have g:E (mV p f<|jD p<|Z f) (Z (mV p f<|jD p<|Z f)-1) 0=1:=by rw[a,d,b O,o,eK,<-C,k.one]
 refine⟨⟨⟨λi=>?_,.inr (by rw[g];decide)⟩,λe=>by rw[e]at a;simp at a;omega,g⟩,n,O,O⟩;rw[d];split
 .exact k.c.1 _
 .exact⟨hO _,H.pos⟩
structure CM(p:Y)(f:V G)(a:V (V G)):Prop where
 ok:∀g∈a,Mon p g/\2<=g.length/\bq (fx g:Fx p)/\(fx g:Fx p)∣fx f
 ds:a.Pairwise λx y=>x≠y
def aqb{p}(H:br p){a d}(f:Mon p a)(g:Mon p d)(m:bq (fx d:Fx p))(n:2<=Z a)(o:(fx a:Fx p)∣fx d):a=d:=by
 let ⟨w,hw⟩:=o;have i:sz (fx a:Fx p)≠1:=by rw[dc f.c];omega
 rcases m.2 _ _ hw with e|e
 .obtain⟨c,k,rfl⟩:=E4 H e;have s:=eh H (th H k)<|f.kH H;rw[<-hw,dc g.c,dc f.c,we H k]at s;have t:Z d=Z a:=O;have l:(ps d) (Z a-1)%(p:G)=(PS.K c*ps a) (Z a-1)%(p:G):=(mk_eq.1<|show(mk (ps d) (bp.ps p d):Fx p)=mk (PS.K c*ps a) ((bp.K p c).mul<|bp.ps p a)from hw).at _;rw[PS.fa,cH,cH,f.one,<-t,g.one,ns]at l;have u:(K c:Fx p)=1:=by rw[<-oC];exact Cf l.symm
  rw[u,one_mul]at hw;exact(uM g.c f.c hw).symm
 .exact absurd e i
def OW{p:Y}(H:br p){Q A:Fx p}(a:bq Q):∀n,Q∣pk A n->Q∣A
 |0,d=>absurd d<|a.zy H
 |n+1,d=>by
  rcases a.nZ H (show Q∣pk A n*A from d)with f|f
  .exact OW H a n f
  .exact f
def u5.pull{p}(H:br p){u}{f}{m}{l}(d:u5 p u f m l){g}{v}(i:CM p f (g::v)):
  u5 p u (pull p g (Z f+1) f 0).1 m (l++[(g,(((pull p g (Z f+1) f 0).2:Y):G)*(m:G))])/\CM p (pull p g (Z f+1) f 0).1 v/\(pull p g (Z f+1) f 0).1.length<Z f:=by
 let ⟨o,g2,A,B⟩:=i.ok g az
 let ⟨q1,q2,C,U,K,W⟩:=aer H o g2 (Z f+1) f 0 (dK _) d.aJ
 let ⟨X,L⟩:=K B
 generalize Go.El.pull p g (Z f+1) f 0=x at*
 let ⟨b,n⟩:=x
 simp only at q1 q2 C U K W X L⊢
 rw[pk,mul_one]at q2
 let ⟨d1,d2⟩:=jR.1 i.ds
 have s:(fx b:Fx p)∣fx f:=OX
 refine⟨⟨q1,?_,?_,?_,?_,d.m1⟩,⟨λk M=>?_,d2⟩,L⟩
 .rw[d.prod,q2,aeq,uF];have e:af ((n:G)*(m:G))=n*m:=by rw[<-fD,bY]
  simp only[e,uE];ac_rfl
 .intro x a;rcases bg.1 a with a|a
  .exact d.fI x a
  .have e:=iK.1 a;subst e;refine⟨o,g2,A,?_⟩;have:=zc (O:0<n) (show 0<m from d.m1);show(1:G)<=(n:G)*(m:G);rw[<-fD];omega
 .intro x a;rcases bg.1 a with a|a
  .exact λc=>d.nd x a<|dvd_trans c s
  .have e:=iK.1 a;subst e;exact C
 .refine xZ.2 ⟨d.ds,TM _ _,λx a y j e=>?_⟩;have q:=iK.1 j;subst q;exact d.nd x a (by rw[e];exact B)
 .let ⟨P,Q,t,T⟩:=i.ok k (by simp[M]);refine⟨P,Q,t,?_⟩;rw[q2]at T;rcases t.nZ H T with e|e
  .exact e
  .exact absurd (aqb H P o A Q<|OW H t n e).symm<|d1 k M
noncomputable def gW(p:Y)(m:Y):V (V G)->V G×V (V G×G)->V G×V (V G×G)
 |[],x=>x
 |g::a,x=>gW p m a ((pull p g (Z x.1+1) x.1 0).1,x.2++[(g,(((pull p g (Z x.1+1) x.1 0).2:Y):G)*(m:G))])
def Vi{p:Y}(H:br p){i:Fx p}{m:Y}:∀(a:V (V G))(f:V G)(l:V (V G×G)),u5 p i f m l->CM p f a->u5 p i (gW p m a (f,l)).1 m (gW p m a (f,l)).2/\(gW p m a (f,l)).1.length<=Z f/\(a≠[]->(gW p m a (f,l)).1.length<Z f)
 |[],_,_,d,_=>⟨d,aO _,λk=>absurd J k⟩
 |g::a,f,l,d,n=>by let ⟨i1,i2,i3⟩:=d.pull H n;let ⟨j1,j2,_⟩:=Vi H a _ _ i1 i2;rw[gW];exact⟨j1,by simp only at j2⊢;omega,λ_=>by simp only at j2⊢;omega⟩
def aqc{p}(H:br p){f}(a:aN (jM p f)=[]):bC (fx f:Fx p)=0:=by rw[<-Vf,<-Ff,a,kF]
structure CN(p:Y)(a:Fx p)(l:V (V G×G)):Prop where
 parts:∀x∈l,Mon p x.1/\2<=x.1.length/\bq (fx x.1:Fx p)/\1<=x.2
 ds:l.Pairwise λx y=>x.1≠y.1
 prod:iU p l=a
end Go.El
namespace Go.El
open Go Go.Proofs Go.RowKit
def pU(a d:G):G:=if a<d then-1 else if a>d then 1 else 0
def CO(a d:V G):Y->G
 |0=>0
 |i+1=>if pU (E a i 0) (E d i 0)≠0 then pU (E a i 0) (E d i 0)else CO a d i
def sk(a d:V G):G:=if Z a≠Z d then pU (Z a) (Z d)else CO a d (Z a)
section
variable{α:Type}{d:α}{cm:α->α->G}
def gAd(d:α)(cm:α->α->G)(xs:V (α))(k:Y):Prop:=∀t,t<k->0<=cm (E xs (t+1) d) (E xs t d)
end
open Fx
abbrev d0M:V G×G:=([],0)
def aqd a d:pU a d= -pU d a:=by unfold pU;split<;>split<;>(try split)<;>omega
end Go.El
namespace Go.El
open Go Go.Proofs Go.RowKit
namespace Rx
def OY(t:e)(m:Y):∀n:Y,t^(m+n)=t^m*t^n
 |0=>by rw[jy,yd,tj]
 |n+1=>by rw[<-rq,ye,OY t m n,ye,ny]
def Vj(s t:e):∀n:Y,(s*t)^n=s^n*t^n
 |0=>by rw[yd,yd,yd,tj]
 |n+1=>by rw[ye,ye,ye,Vj s t n];grind
def Vk:∀n:Y,(1:e)^n=1
 |0=>yd _
 |n+1=>by rw[ye,Vk n,tj]
def FV{t:e}(d:t≠0):∀n:Y,t^n≠0
 |0=>by rw[yd];decide
 |n+1=>λa=>by
  rw[ye]at a;rcases zv.1 a with a|a
  .exact FV d n a
  .exact d a
def gA(t:e)(A:Rx):Rx:=⟨λi=>t^i*A i,by let ⟨n,a⟩:=A.2;exact⟨n,λi d=>by show t^i*A.v i=0;rw[a i d,fH]⟩⟩
def oI t A i:gA t A i=t^i*A i:=rfl
def OZ t A B:gA t (A*B)=gA t A*gA t B:=ext λn=>by
 rw[oI,fF,fF,<-Nd];refine uB λi a=>?_
 rw[oI,oI];have:t^n=t^i*t^(n-i):=by rw[<-OY,(O:i+(n-i)=n)]
 rw[this];grind
def aqe t A B:gA t (A+B)=gA t A+gA t B:=ext λn=>by rw[oI,eV,eV,oI,oI,Rat.mul_add]
def aqf t a:gA t (K a)=K a:=ext λn=>by
 rw[oI,mj];split
 .rename_i h;rw[h,yd,rZ]
 .rw[fH]
def aew t:gA t 1=1:=aqf t 1
def aex s t A:gA s (gA t A)=gA (s*t) A:=ext λn=>by rw[oI,oI,oI,Vj,ny]
def aey A:gA 1 A=A:=ext λn=>by rw[oI,Vk,rZ]
def aqg t A:bC (gA t A)=K t*gA t (bC A):=ext λn=>by rw[qL,oI,fh,oI,qL,ye];grind
def O0{t}(d:t≠0) A:sz (gA t A)=sz A:=by
 have a:∀(s:e)(B:Rx),sz (gA s B)<=sz B:=λs B=>pI λi f=>by rw[oI,mR f,fH]
 have k:=a t A;have g:=a t⁻¹ (gA t A);rw[aex,lU t d,aey]at g;omega
def bq.gA{t}(a:t≠0){A}(d:bq A):bq (gA t A):=by
 refine⟨by rw[O0 a];exact d.1,λX Y e=>?_⟩;have f:A=Rx.gA t⁻¹ X*Rx.gA t⁻¹ Y:=by rw[<-OZ,<-e,aex,lU t a,aey]
 have:=d.2 _ _ f;rwa[O0 (r8 a),O0<|r8 a]at this
def Co.gA{t}{A B}(a:Co A B):Co (gA t A) (Rx.gA t B):=by let ⟨U,V,e⟩:=a;refine⟨Rx.gA t U,Rx.gA t V,?_⟩;rw[<-OZ,<-OZ,<-aqe,e,aew]
noncomputable def mS(t:e)(A:Rx):Rx:=K (t^(sz A-1))*gA t⁻¹ A
def aez{t}(a:t≠0) A:sz (mS t A)=sz A:=by
 by_cases h:A=0
 .subst h;have e:gA t⁻¹ 0=(0:Rx):=ext λi=>by rw[oI,mO,fH]
  rw[mS,e,mul_zero]
 .have d:=O0 (r8 a) A;have f:gA t⁻¹ A≠0:=λe=>by rw[e,k8]at d;have:=fq h;omega
  have g:=eh (th<|FV a<|sz A-1) f;rw[we (FV a _),d]at g;show sz (K _*_)=_;omega
def JL{t:e}(a:t≠0)(n:Y):t^n*t⁻¹ ^n=1:=by rw[<-Vj,Rat.mul_inv_cancel t a,Vk]
def JM{t}A i:mS t A i=t^(sz A-1)*(t⁻¹ ^i*A i):=by rw[mS,fh,oI]
def aqh{t}(a:t≠0){A}(d:Mo A):Mo (mS t A):=by rw[Mo,aez a,JM,<-ny,JL a,rZ];exact d
def aqi t:mS t 1=1:=by rw[mS,r7,aew,mul_one];show K (t^0)=1;rw[yd,oC]
def aqj{t}{A B}(a:A≠0)(d:B≠0):mS t (A*B)=mS t A*mS t B:=by have h:=eh a d;have f:=fq a;have g:=fq d;rw[mS,mS,mS,OZ,(O:sz (A*B)-1=(sz A-1)+(sz B-1)),OY,fa];ac_rfl
def aqk{t}(a:t≠0) A:mS t⁻¹ (mS t A)=A:=ext λi=>by rw[JM,JM,aez a,Rat.inv_inv];have d:=JL a<|sz A-1;have f:=JL a i;grind
def aql{t}(a:t≠0){A}(d:bq A):bq (mS t A):=bq.smul (d.gA<|r8 a)<|FV a _
def aqm{t}(a:t≠0){A}(d:Co A (bC A)):Co (mS t A) (bC<|mS t A):=by have f:=FV a<|sz A-1;have g:=r8 a;let ⟨U,V,e⟩:=d.gA (t:=t⁻¹);refine⟨K (t^(sz A-1))⁻¹ *U,K (t^(sz A-1))⁻¹ *(K (t⁻¹)⁻¹ *V),?_⟩;rw[mS,IE,aqg,<-e];have i:=pH f;have k:=pH g;have l:K (t^(sz A-1))⁻¹ *U*(K (t^(sz A-1))*gA t⁻¹ A)=(K (t^(sz A-1))⁻¹ *K (t^(sz A-1)))*(U*gA t⁻¹ A):=fG;have m:K (t^(sz A-1))⁻¹ *(K (t⁻¹)⁻¹ *V)*(K (t^(sz A-1))*(K t⁻¹ *gA t⁻¹ (bC A)))=(K (t^(sz A-1))⁻¹ *K (t^(sz A-1)))*((K (t⁻¹)⁻¹ *K t⁻¹)*(V*gA t⁻¹ (bC A))):=fG;rw[l,m,i,k,one_mul,one_mul,one_mul]
end Rx
open Rx
def iF(a:V e):Y->Y
 |0=>1
 |i+1=>iF a i*((E a i 0).den/Nat.gcd (iF a i) (E a i 0).den)
def dU(a:V e):Y:=iF a<|Z a
def dV(a:V e):V G:=(bX<|Z a).map λk=>(E a k 0).num*((dU a:Y):G)^(Z a-1-k)/((E a k 0).den:G)
def kJ(a:Y)(g:V G):V e:=(bX<|Z g).map λk=>jI (E g k 0)<|(a:G)^(Z g-1-k)
noncomputable def ob:V (V e)->Rx
 |[]=>1
 |u::l=>lx u*ob l
def Vl a i:iF a (i+1)=Nat.lcm (iF a i) (E a i 0).den:=by rw[iF,Nat.lcm,Nat.mul_div_assoc _<|Sq _ _]
def FW(a:V e):∀i,∀d,d<i->(E a d 0).den∣iF a i
 |0,_,f=>by omega
 |i+1,d,f=>by
  rw[Vl];by_cases g:d=i
  .subst g;exact Nat.dvd_lcm_right _ _
  .exact Fb (FW a i d O)<|Nat.dvd_lcm_left _ _
def Vm(a:V e){d:Y}(f:∀g,(E a g 0).den∣d):∀i,iF a i∣d
 |0=>Nat.one_dvd _
 |i+1=>by rw[Vl];exact Nat.lcm_dvd (Vm a f i)<|f i
def FX(a:V e):∀i,0<iF a i
 |0=>Nat.zero_lt_one
 |i+1=>by rw[Vl];exact Nat.lcm_pos (FX a i) (E a i 0).den_pos
def Ap a:Z (dV a)=Z a:=by simp[dV]
def O1 a{k}(d:k<Z a):E (dV a) k 0=(E a k 0).num*((dU a:Y):G)^(Z a-1-k)/((E a k 0).den:G):=by unfold dV;rw[aK,jh,k6 d];rfl
def O2 a{D}(f:(a.den:G)∣D):((a.num*D/(a.den:G):G):e)=(D:e)*a:=by
 obtain⟨d,rfl⟩:=f;have g:(a.den:G)≠0:=by have:=a.den_pos;omega
 have i:a.num*((a.den:G)*d)/(a.den:G)=a.num*d:=by rw[(fG:a.num*((a.den:G)*d)=(a.num*d)*(a.den:G)),Int.mul_ediv_cancel _ g]
 rw[i,fZ,fZ,<-NI a];have:(((a.den:Y):G):e)=((a.den:Y):e):=rfl;rw[this];grind
structure jt(a:V e):Prop where
 one:a.getD (a.length-1) 0=1
 l2:2<=a.length
 l9:a.length<=9
 co:Co (lx a) (bC<|lx a)
 aB:∀i,aH 6 ((dV a).getD i 0)
section
variable{a:V e}
def JN a:((dU a:Y):e)≠0:=xQ<|TH.1<|FX a _
def jt.can(d:jt a):bI a:= .inr (by rw[d.one];decide)
def jt.sz(d:jt a):Rx.sz (lx a)=Z a:=fY d.can
def Vn(d:Y):∀n:Y,(((d:G)^n:G):e)=((d:Y):e)^n
 |0=>by rw[o8,yd];rfl
 |n+1=>by rw[fK,fZ,Vn d n,ye];rfl
def aeA{t:e}(d:t≠0){m k:Y}(g:k<=m):t^m*t⁻¹ ^k=t^(m-k):=by
 have f:t^m=t^(m-k)*t^k:=by rw[<-OY,(O:m-k+k=m)]
 rw[f,ny,JL d,tj]
def jt.zx(d:jt a):Rx.zx (dV a)=mS ((dU a:Y):e) (lx a):=Rx.ext λi=>by
 rw[ll,JM,d.sz,fX];by_cases f:i<Z a
 .rw[O1 a f,O2,Vn,<-ny,aeA (JN a) O];by_cases g:i=Z a-1
  .rw[g,d.one];exact Int.one_dvd _
  .have k:(E a i 0).den∣dU a:=FW a _ i f;have l:((E a i 0).den:G)∣((dU a:Y):G):=xC.2 k;obtain⟨j,m⟩:∃j,Z a-1-i=j+1:=⟨Z a-1-i-1,O⟩;rw[m,fK];exact Is l<|Cq _ _
 .rw[fp _ (by rw[Ap];omega),iP a O,fH,fH];rfl
def jt.aJ(d:jt a):aJ (dV a):=by have f:=d.l2;refine⟨λe=>by have:=Ap a;rw[e]at this;simp at this;omega,?_⟩;rw[Ap,O1 a O,d.one,lH,o8];rfl
def jt.aeB(d:jt a){l}(k:l.Nodup)(m:∀p∈l,br p)(o:xV<qT l):∃p∈l,Fx.Co (Fx.fx (dV a):Fx (p:Y)) (Fx.bC<|Fx.fx<|dV a):=by
 have t:=d.l2;have u:=d.l9;obtain⟨n,f⟩:∃n,Z a=n+2:=⟨Z a-2,O⟩;have g:Co (Rx.zx<|dV a) (bC<|Rx.zx<|dV a):=by rw[d.zx];exact aqm (JN a) d.co
 refine anM k m o (n:=n) (by rw[Ap];exact f) d.aJ g (B:=2^192) D (λi=>?_) ?_
 .have:=d.aB i;unfold aH at this;omega
 .have s:2*((2*n+2)*((n+1)*2^192))<=2^200:=by have v:(2*n+2)*(n+1)<=16*8:=mL O O;rw[<-pj (2*n+2)];omega
  refine bm (zR s _) ?_;refine bm (eQ D (O:2*n+1<=15)) ?_;decide+kernel
def jt.mf(d:jt a):JJ (dV a):=⟨d.aJ,by rw[Ap];exact d.l2,by rw[Ap];exact d.l9,d.aB,d.aeB anw (λ_ f=>ap9 f) anz⟩
def O3 d g:Z (kJ d g)=Z g:=by simp[kJ]
def Vo d g{k}(f:k<Z g):E (kJ d g) k 0=jI (E g k 0) ((d:G)^(Z g-1-k)):=by unfold kJ;rw[aK,jh,k6 f];rfl
def aqn f{d:Y}(k:0<d) n:jI f ((d:G)^n)=((d:Y):e)⁻¹ ^n*(f:e):=by
 have g:((d:Y):e)≠0:=xQ O;rw[Np,Vn,zq];have l:=JL g n;have i:(((d:Y):e)^n)⁻¹ =((d:Y):e)⁻¹ ^n:=by have m:=lU _<|FV g n;grind
 rw[i,BX]
def aeC{d:Y}(f:0<d){g:V G}(k:Go.El.aJ g):lx (kJ d g)=mS ((d:Y):e)⁻¹ (Rx.zx g):=Rx.ext λi=>by
 have l:((d:Y):e)≠0:=xQ O;rw[JM,ln<|aJ.can k,ll,fX];by_cases m:i<Z g
 .rw[Vo d g m,aqn _ f,<-ny,aeA (r8 l) O]
 .rw[iP _ (by rw[O3];omega),fp g O];show(0:e)=_*(_*((0:G):e));rw[show((0:G):e)=0 from J,fH,fH]
def aeD{d}{g}(f:Go.El.aJ g):E (kJ d g) (Z (kJ d g)-1) 0=1:=by have:=bQ.2 f.1;rw[O3,Vo d g O,f.2,lH,o8];rfl
def aeE{i:Y}(l:0<i):∀{d:V (V G)},(∀g∈d,Go.El.aJ g)->ob (d.map<|kJ i)=mS ((i:Y):e)⁻¹ (pO d)
 |[],_=>(aqi _).symm
 |g::d,f=>by
  have m:pO d≠0:=by
   have k:∀{d:V (V G)},(∀g∈d,Go.El.aJ g)->pO d≠0:=by
    intro d;induction d with
    |nil=>intro _;exact qK
    |cons g d n=>intro f;exact nW (n7<|f g az).ne<|n λx hx=>f x mB
   exact k λx hx=>f x mB
  rw[il,ob,pO,aqj (n7<|f g az).ne m,aeC l<|f g az,aeE l λx hx=>f x mB]
def jt.unG(n:jt a){d}(k:∀l∈d,Go.El.aJ l/\Rx.bq (Rx.zx l))(o:Rx.pO d=Rx.zx (dV a)):(∀u∈d.map (kJ<|dU a),E u (Z u-1) 0=1/\bI u/\Mo (lx u)/\bq (lx u))/\ob (d.map<|kJ<|dU a)=lx a:=by
 have m:0<dU a:=FX a _;refine⟨λu p=>?_,?_⟩
 .obtain⟨g,i,rfl⟩:=iJ.1 p;let ⟨f,g2⟩:=k g i;rw[aeC m f];exact⟨aeD f,.inr (by rw[aeD f];decide),aqh (r8<|JN a)<|n7 f,aql (r8<|JN a) g2⟩
 .rw[aeE m λg i=>(k g i).1,o,n.zx,aqk (JN a)]
end
end Go.El
namespace Go.El
open Go Go.Proofs Go.RowKit Fx
def aeF{x y}:dR x y<=0↔x<=y:=by
 unfold dR;split
 .omega
 .split<;>omega
end Go.El
namespace Go.El
open Go Go.Proofs Go.RowKit
def Vp(a:V e)(f:∀i,QS 20 (E a i 0)):∀i,aH (20*i+1) ((iF a i:Y):G)
 |0=>aH.one (a:=1) D
 |i+1=>by have g:=Vp a f i;have k:=(f i).d;have m:iF a (i+1)<=iF a i*(E a i 0).den:=fN _<|Nat.div_le_self _ _;have l:=g.mul k;rw[<-fD]at l;unfold aH at*;rw[px]at*;rw[(O:20*(i+1)+1=20*i+1+20)];omega
def pV{a:Type}(f:Y->a)(d:a)(n g:Y):V a:=(bX n).map λk=>if n<=k+g then f k else d
def aqp{a:Type}(f:Y->a) d n g:Z (pV f d n g)=n:=by simp[pV]
def aqq{a:Type}(f:Y->a) d n:List.replicate n d=pV f d n 0:=by
 refine rF (by simp[pV]) λi k g=>?_
 simp[pV]at g⊢;omega
def aeG{k:Type}(f:Y->k) d{n a}(m:a<n):(pV f d n a).set (n-1-a) (f<|n-1-a)=pV f d n (a+1):=by
 refine rF (by simp[pV]) λi o l=>?_
 rw[List.getElem_set];simp only[pV,Bg,K'];simp only[pV,cy,mQ]at l;by_cases e:n-1-a=i
 .subst e;rw[b J,b O]
 .rw[w e];by_cases g:n<=i+a
  .rw[b g,b O]
  .rw[w g,w O]
def aqr{a:Type}(f:Y->a) d n:pV f d n n=(bX n).map f:=by
 refine rF (by simp[pV]) λi g k=>?_
 simp[pV]
def aeH{g:V G}:∀{l:V (V G)},g∈l->Rx.zx g∣Rx.pO l
 |f::l,a=>by
  rw[Rx.pO];rcases b9.1 a with rfl|a
  .exact Rx.dvd_mul_right _ _
  .exact Rx.dw (aeH a) _
def aeI:∀{l:V (V G)},(∀g∈l,Rx.bq (Rx.zx g))->Rx.pO l≠0/\Z l+1<=Rx.sz (Rx.pO l)
 |[],_=>⟨Rx.qK,by rw[Rx.pO,Rx.r7];exact aO _⟩
 |g::l,d=>by
  let ⟨i1,i2⟩:=aeI (l:=l) λx hx=>d x mB
  have a:=d g az;have:=Rx.eh a.ne i1;have:=a.1;rw[Rx.pO];exact⟨Rx.nW a.ne i1,Nm⟩
def q6(a d:V e):Y->G
 |0=>0
 |i+1=>if nX (E a i 0) (E d i 0)≠0 then nX (E a i 0) (E d i 0)else q6 a d i
def ju(a d:V e):G:=if Z a≠Z d then pU (Z a) (Z d)else q6 a d (Z a)
abbrev yf:V e×G:=([],0)
def FY(x y:V e×G):G:=ju x.1 y.1
structure FZ(w:Y)(x:V e×G):Prop where
 l:x.1.length<=1000
 q:∀i,QS w (x.1.getD i 0)
open Rx
def CD(a M:Y)(A:Rx):Prop:=0<a/\∀i,∃z:G,aC z<=M/\((a:Y):e)*A i=(z:e)
def CD.int{a M}{A}(d:CD a M A):dq (K ((a:Y):e)*A):=dq.of λi=>by let ⟨z,_,h2⟩:=d.2 i;exact⟨z,by rw[fh,h2]⟩
def CD.le{a M d}{A}(f:CD a M A)(k:M<=d):CD a d A:=⟨f.1,λi=>by let ⟨z,g,h2⟩:=f.2 i;exact⟨z,bm g k,h2⟩⟩
def CD.low{g d M}{A}(k:CD g M A)(n:d∣g)(o:dq (K ((d:Y):e)*A)):CD d M A:=by
 obtain⟨j,rfl⟩:=n;have t:=k.1;have p:0<d:=rM λa=>by subst a;omega
 have j0:0<j:=rM λa=>by subst a;omega
 refine⟨p,λi=>?_⟩;let ⟨z,l,h2⟩:=k.2 i;have f:=o.at i;rw[fh]at f;refine⟨_,?_,f⟩;generalize nu (K ((d:Y):e)*A) i=y at*;have m:((j:G):e)*(y:e)=(z:e):=by rw[<-h2,<-f,zO,r9];grind
 rw[<-fZ]at m;have s:(j:G)*y=z:=xU.1 m;rw[<-s,rQ]at l;have:1*aC y<=j*aC y:=eC _ j0;have a:aC ((j:G))=j:=rfl;rw[a]at l;omega
def aqs{A}{M}(d:∀i,aC (A i)<=M):∀n,Rx.nR n A<=(((n+1)*M:Y):G):=by
 intro n;have a:∀k,sm (λi=>(aC (A i):G)) k<=((k*M:Y):G):=by
  intro k;induction k with
  |zero=>simp[sm]
  |succ k f=>
   rw[sm]
   have:=d k
   rw[gO,jn]
   omega
 exact a<|n+1
def CD.div{t M}{A a}(hA:Mo A)(u:Mo a)(hd:a∣A)(U:CD t M A):∃d,Dn a d/\d∣t/\CD d (2^(sz A-1)*(sz A*M)) a:=by
 obtain⟨E,rfl⟩:=hd;have v:Mo E:=hA.zz u;let ⟨d,f⟩:=I3 a;let ⟨x,g⟩:=I3 E;let ⟨n,y⟩:=I3<|E*a;have W:=abA v u g f y;have o:=y.dvd t U.int;have C:d∣t:=Fb ⟨x,by rw[W,gG]⟩ o;have H:=U.low o y.int;have R:=eh v.ne u.ne;have S:=fq v.ne;have s2:=fq u.ne;refine⟨d,f,C,f.pos,λi=>⟨nu (K ((d:Y):e)*a) i,?_,by rw[<-fh];exact f.int.at i⟩⟩;have X:∀{m:Y}{B:Rx},0<m->sz (K ((m:Y):e)*B)<=sz B:=λ_=>pI λi q=>by rw[fh,mR q,fH]
 have r:nu (K ((x:Y):e)*E) (sz E-1)≠0:=λw=>by have p:=g.int.at<|sz E-1;rw[fh,w]at p;have L:E (sz E-1)=1:=v;rw[L,tj]at p;exact xQ (TH.1 g.pos) p
 have P:=abD (A:=nu<|K ((d:Y):e)*a) (B:=nu<|K ((x:Y):e)*E) (k:=sz a-1) (l:=sz E-1) (λj F=>wq<|by have:=X (B:=a) f.pos;omega) (λj F=>wq<|by have:=X (B:=E) g.pos;omega) r i;have I:nu (K ((d:Y):e)*a)*nu (K ((x:Y):e)*E)=nu (K ((n:Y):e)*(E*a)):=by rw[<-Cd f.int g.int];congr 1;rw[W,zO,fa];ac_rfl
 rw[I]at P;have J:∀i,aC (nu (K ((n:Y):e)*(E*a)) i)<=M:=λi=>by let ⟨z,p,L⟩:=H.2 i;have b:=y.int.at i;rw[fh,L]at b;rw[<-xU.1 b];exact p
 have s:=aqs J<|sz a-1+(sz E-1);rw[(O:sz a-1+(sz E-1)=sz (E*a)-1)]at P s;have Q:(0:G)<=2^(sz (E*a)-1):=Int.le_of_lt<|nH D;have T:=tq P<|kK s Q;rw[(O:sz (E*a)-1+1=sz (E*a))]at T;have N:(2:G)^(sz (E*a)-1)*((sz (E*a)*M:Y):G)=((2^(sz (E*a)-1)*(sz (E*a)*M):Y):G):=by rw[fD (2^(sz (E*a)-1)),uv];rfl
 rw[N]at T;exact NJ.1 T
def CD.ht{a M d}{A}(h:CD a M A)(f:a<=d)(g:M<=d):Ht d A:=⟨(a:G),BN,f,λi=>by let ⟨z,k,h2⟩:=h.2 i;exact⟨z,bm k g,h2⟩⟩
def aeJ{a}{d M}(f:CD d M (lx a)):dU a∣d:=Vm a (λj=>by
 let ⟨z,_,h2⟩:=f.2 j;rw[fX]at h2;have g:=NI<|E a j 0;generalize E a j 0=r at*;have i:((d:G)*r.num:G)=z*(r.den:G):=by refine xU.1 ?_;rw[fZ,fZ,<-g,<-h2,r9,r9];grind
 have k:(r.den:G)∣r.num*(d:G):=⟨z,by rw[eX,i,eX]⟩;have l:r.den∣aC r.num*d:=by have:=Ib.2 k;rwa[rQ]at this
 exact(r.reduced.symm.dvd_of_dvd_mul_left l)) _
def aqt a:dq (K ((dU a:Y):e)*lx a):=dq.of λi=>by
 by_cases f:i<Z a
 .refine⟨(E a i 0).num*((dU a:Y):G)/((E a i 0).den:G),?_⟩;have d:(E a i 0).den∣dU a:=FW a _ i f;rw[O2 _ (xC.2 d),fh,fX];rfl
 .exact⟨0,by rw[fh,fX,iP a O,fH];rfl⟩
def aqu{a}{d M f t}(k:CD d M (lx a))(g:E a (Z a-1) 0=1)(o:d<=2^f)(p:M<=2^t)(H:(Z a-2)*f+t<=191) i:aH 6 (E (dV a) i 0):=by
 have s:(4294967296:Y)^6=2^192:=D;unfold aH;rw[s];by_cases l:i<Z a
 .by_cases u:i=Z a-1
  .subst u;rw[O1 a l,g,lH,o8];exact Nat.one_lt_two_pow D
  .have v:=k.low (aeJ k)<|aqt a;let ⟨z,x,h2⟩:=v.2 i;rw[fX]at h2;have y:dU a<=2^f:=bm (vZ k.1<|aeJ k) o;obtain⟨j,A⟩:∃j,Z a-1-i=j+1:=⟨Z a-1-i-1,O⟩;have B:(E a i 0).num*((dU a:Y):G)^(j+1)/((E a i 0).den:G)=((dU a:Y):G)^j*z:=by
    refine xU.1 ?_;have m:((E a i 0).den:G)∣((dU a:Y):G)^(j+1):=by rw[fK];exact Is (xC.2<|FW a _ i l)<|Cq _ _
    rw[O2 _ m,fZ,<-h2,fK,fZ,r9];grind
   rw[O1 a l,A,B,rQ,Int.natAbs_pow,px];have C:dU a^j<=2^(f*j):=by rw[EO];exact zR y j
   have K:f*j<=(Z a-2)*f:=by rw[gG];exact eC _ O
   have n:dU a^j*aC z<=2^(f*j)*2^t:=mL C<|bm x p;rw[<-k4]at n;exact vW n<|Tn D O
 .rw[fp _ (by rw[Ap];omega)];exact gQ D
noncomputable def g8:V (V e×G)->Rx
 |[]=>1
 |x::l=>pk (lx x.1) (af x.2)*g8 l
noncomputable def pW:V (Rx×G)->Rx
 |[]=>1
 |x::l=>pk x.1 (af x.2)*pW l
def aeK:∀l m,g8 (l++m)=g8 l*g8 m
 |[],m=>by rw[tS,g8,one_mul]
 |x::l,m=>by rw[m7,g8,g8,aeK l m,mul_assoc]
def aeL:∀l m,pW (l++m)=pW l*pW m
 |[],m=>by rw[tS,pW,one_mul]
 |x::l,m=>by rw[m7,pW,pW,aeL l m,mul_assoc]
def aeM:∀l:V (V e×G),g8 l=pW (l.map λp=>(lx p.1,p.2))
 |[]=>rfl
 |x::l=>by rw[il,g8,pW,aeM l]
def aqv{l m}(a:l.Perm m):g8 l=g8 m:=by
 induction a with
 |nil=>rfl
 |cons x _ d=>rw[g8,g8,d]
 |swap x y l=>rw[g8,g8,g8,g8];ac_rfl
 |trans _ _ i1 i2=>exact i1.trans i2
structure aeN(a:V e)(fs:V (V e×G)):Prop where
 ok:∀x∈fs,x.1.getD (x.1.length-1) 0=1/\bq (lx x.1)/\1<=x.2
 prod:g8 fs=lx (dr a)
 B0:fs.Pairwise (λx y=>x.1≠y.1)
 adj:gAd yf FY fs (fs.length-1)
def aeO(d:Y->Y)(a:Y):∀L,pk (pF d L) a=pF (λm=>d m*a) L
 |[]=>BY a
 |x::L=>by rw[pF,pF,uF,aeO d a L,uE]
def Vq{L}(a:FL L)(d:Y->Y):Mo (pF d L):=wh a.mo
def aeP{L:V (Rx×Y)}(a:FL L):∀(k n:Y),pW (n5 L k n)=pF (λm=>if n<=m/\m<n+k then m else 0) L
 |0,n=>by rw[n5,pW];exact(Nk λx _=>w O).symm
 |k+1,n=>by
  have g:pW (if 1<sz (pF (kP n) L)then[(pF (kP n) L,(n:G))]else[])=pk (pF (kP n) L) n:=by
   split
   .rw[pW,pW,mul_one,bY]
   .rename_i i;have d:=Vq a<|kP n;have:=fq d.ne;rw[d.unit O,BY,pW]
  rw[n5,aeL,g,aeP a k<|n+1,aeO,<-B1];refine xP λx _=>?_
  unfold kP;by_cases e:x.2=n
  .rw[b e,w O,b O];omega
  .rw[w e];by_cases f:n+1<=x.2/\x.2<n+1+k
   .rw[b f,b O];omega
   .rw[w f,w O];omega
def Vr{L:V (Rx×Y)}:∀{k n:Y}{y:Rx×G},y∈n5 L k n->∃m:Y,n<=m/\y=(pF (kP m) L,(m:G))/\1<sz (pF (kP m) L)
 |0,_,_,a=>by cases a
 |k+1,n,y,a=>by
  rw[n5]at a;rcases bg.1 a with a|a
  .split at a
   .rename_i d;exact⟨n,aO _,iK.1 a,d⟩
   .cases a
  .let ⟨m,d,h2,f⟩:=Vr a;exact⟨m,O,h2,f⟩
def aeQ{L:V (Rx×Y)}:∀(k n:Y),(n5 L k n).Pairwise (λx y=>x.2≠y.2)
 |0,_=>JK
 |k+1,n=>by
  rw[n5];refine xZ.2 ⟨?_,aeQ k<|n+1,λx a y d=>?_⟩
  .split
   .exact TM _ _
   .exact JK
  .let ⟨m,f,h2,_⟩:=Vr d;split at a
   .rw[iK.1 a,h2];show(n:G)≠(m:G);omega
   .cases a
def aqw{L}(a:FL L) m:Co (pF (kP m) L) (bC<|pF (kP m) L):=by
 refine E5 (Vq a _).ne λQ d f g=>?_
 let ⟨x,hx,k,h2⟩:=zA d f;have i:kP m x.2=1:=by have:=IM m x.2;omega
 exact a.IJ (IM m) hx i<|dvd_trans (d.assoc (a.fI x hx) h2) g
def aqx{A}(a:Co A (bC A)){Q}(k:2<=sz Q):¬Q*Q∣A:=λ⟨w,e⟩=>by
 have d:Q∣A:=⟨w*Q,by rw[e];ac_rfl⟩;have f:Q∣bC A:=by rw[e,wg,wg];refine dvd_add ⟨bC w*Q,fG⟩ ?_;rw[mul_add];exact dvd_add ⟨w*bC Q,fG⟩ ⟨w*bC Q,fG⟩
 let ⟨U,V,g⟩:=a;have i:Q∣1:=by rw[<-g];exact dvd_add (dw d _)<|dw f _
 have:=dvd_one i;omega
def O4{u:V e}:∀{l:V (V e)},u∈l->lx u∣ob l
 |v::l,a=>by
  rw[ob];rcases b9.1 a with rfl|a
  .exact dvd_mul_right _ _
  .exact dw (O4 a) _
def aeR:∀{l:V (V e)},(∀u∈l,bq (lx u))->(∀Q:Rx,2<=sz Q->¬Q*Q∣ob l)->l.Pairwise (·≠·)
 |[],_,_=>JK
 |v::l,d,f=>by refine jR.2 ⟨λu a g=>?_,aeR (λu a=>d u<|by simp[a]) λQ i k=>f Q i<|dw k _⟩;subst g;exact f (lx v) (d v az).1<|xO (dvd_refl _)<|O4 a
def aeS(m:G):∀l:V (V e),g8 (l.map λu=>(u,m))=pk (ob l) (af m)
 |[]=>(BY _).symm
 |u::l=>by rw[il,g8,ob,uF,aeS m l]
def gh(ir:V e->V (V e))(a:V (V e×G)):V (V e×G):=a.flatMap λp=>(ir p.1).map λu=>(u,p.2)
def aeT{ir:V e->V (V e)}:∀{a:V (V e×G)},(∀p∈a,ob (ir p.1)=lx p.1)->g8 (gh ir a)=g8 a
 |[],_=>rfl
 |p::a,d=>by rw[gh,lG,aeK,aeS,d p az,g8];exact be _ (aeT λf g=>d f<|by simp[g])
def aeU:∀{l:V (V e×G)},(∀x∈l,bq (lx x.1)/\1<=x.2)->g8 l≠0/\Z l+1<=sz (g8 l)
 |[],_=>⟨qK,by rw[g8,r7];exact aO _⟩
 |x::l,a=>by
  let ⟨i1,i2⟩:=aeU (l:=l) λy hy=>a y uH
  let ⟨f,h2⟩:=a x az;have g:=Tp f.1<|af x.2;have d:pk (lx x.1) (af x.2)≠0:=λi=>by rw[i,k8]at g;omega
  have:=eh d i1;rw[g8];exact⟨nW d i1,Nm⟩
def aeV{x:V e×G}:∀{l:V (V e×G)},x∈l->1<=x.2->lx x.1∣g8 l
 |y::l,a,d=>by
  rw[g8];rcases b9.1 a with rfl|a
  .obtain⟨n,f⟩:∃n,af x.2=n+1:=⟨af x.2-1,O⟩;rw[f];exact kD (dvd_mul_left _ _) _
  .exact dw (aeV a d) _
def Vs a f:nX a f= -nX f a:=by
 unfold nX;by_cases d:a<f
 .rw[b d,w<|Rat.not_lt.2<|Rat.le_of_lt d,b d]
 .rw[w d];by_cases h2:f<a
  .rw[b h2,b h2];rfl
  .rw[w h2,w h2,w d];rfl
def aeW(a d:V e):∀i,q6 a d i= -q6 d a i
 |0=>rfl
 |i+1=>by
  rw[q6,q6,Vs (E d i 0)<|E a i 0,aeW a d i];generalize nX (E a i 0) (E d i 0)=k;by_cases g:k=0
  .rw[w (λf=>f g),w<|λf=>f O]
  .rw[b g,b O];omega
def aqy a d:ju a d= -ju d a:=by
 unfold ju;by_cases h:Z a=Z d
 .rw[w (λe=>e h),w<|λe=>e h.symm,aeW,h]
 .rw[b h,b<|λe=>h e.symm,aqd]
def aeX x y:FY x y= -FY y x:=aqy _ _
structure oc(a:V Rat):Prop where
 can:bI a
 ne:a≠[]
 l9:a.length<=9
 hA:Ht (2^1500) (lx a)
 sz:∃c e h:Y,CD c (2^h) (lx<|dr a)/\c<=2^e/\e<=600/\(a.length-2)*e+(h+12)<=191
section
variable{a:V e}
def oc.mo(d:oc a):Mo (lx<|dr a):=aa1 d.can d.ne
def oc.JO(d:oc a):Rx.sz (lx<|dr a)=Z a:=by rw[fY (pJ a),B4 d.can]
def oc.div(g:oc a){i}(m:Mo i)(n:i∣lx (dr a)):∃d f t,CD d (2^t) i/\d<=2^f/\f<=600/\(Z a-2)*f+t<=191:=by let ⟨c,f,k,l,h2,o,p⟩:=g.sz;let ⟨d,_,d2,d3⟩:=l.div g.mo m n;refine⟨d,f,k+12,d3.le ?_,bm (vZ l.1 d2) h2,o,p⟩;rw[g.JO];have s:=g.l9;have u:2^(Z a-1)<=2^8:=eQ D O;have v:Z a*2^k<=9*2^k:=eC _ s;have x:=mL u v;rw[k4];omega
def oc.ht(g:oc a){f}(i:Mo f)(k:f∣lx (dr a)):Ht (2^600) f:=by let ⟨d,e,t,l,h2,m,n⟩:=g.div i k;exact l.ht (bm h2<|Nt 600 m)<|Nt 600 O
def oc.qs(f:oc a){d}(g:Mo d)(k:d∣lx (dr a)) i:QS 20 (d i):=(f.ht g k).qs (mU (t:=600) O) i
def aeY{d}(f:bI d)(g:Mo (lx d)):E d (Z d-1) 0=1:=by have:=g;rw[Mo,fY f]at this;exact this
def aqz{d}(f:E d (Z d-1) 0=1):bI d/\Mo (lx d):=by have g:bI d:= .inr (by rw[f];decide);exact⟨g,by rw[Mo,fY g];exact f⟩
def oc.irH(g:oc a){f}(l:bI f)(k:Mo (lx f))(m:lx f∣lx (dr a))(n:2<=Z f)(o:Co (lx f) (bC<|lx f)):jt f/\∀i,QS 20 (E f i 0):=by
 have u:Z f<=Z a:=by have:=jJ m g.mo.ne;rwa[fY l,g.JO]at this
 have v:=g.l9;let ⟨d,e,t,p,s,x,y⟩:=g.div k m;have A:(Z f-2)*e<=(Z a-2)*e:=eC _ O;exact⟨⟨aeY l k,n,O,o,λi=>aqu p (aeY l k) s (aO _) O i⟩,λi=>g.qs k m i⟩
def aqB{L}{m}(d:1<=m):pF (kP m) L∣pF id L:=by
 have e:pF id L=pF (λk=>(k-kP m k)+kP m k) L:=xP λx _=>by show x.2=_;unfold kP;split<;>omega
 rw[e,B1];exact dvd_mul_left _ _
def oc.aqC(H:oc a){ir:V e->V (V e)}(hI:∀A,jt A->(∀i,QS 20 (E A i 0))->(∀u∈ir A,E u (Z u-1) 0=1/\bI u/\Mo (lx u)/\bq (lx u))/\ob (ir A)=lx A){L}(B:FL L)(hF:pF id L=lx (dr a)){d}(M:d.map (λp=>(lx p.1,p.2))=n5 L (Z a) 1)(hq:∀p∈d,bI p.1):
  (∀p∈d,jt p.1/\(∀i,QS 20 (E p.1 i 0))/\1<=p.2)/\Z (gh ir d)<=8/\(∀x∈gh ir d,FZ 20 x)/\(∀x∈gh ir d,E x.1 (Z x.1-1) 0=1/\bq (lx x.1)/\1<=x.2)/\g8 (gh ir d)=lx (dr a)/\(gh ir d).Pairwise (λx y=>x.1≠y.1):=by
 have C:∀p∈d,∃m:Y,1<=m/\lx p.1=pF (kP m) L/\p.2=(m:G)/\2<=Z p.1:=λp l=>by
  have U:(lx p.1,p.2)∈n5 L (Z a) 1:=by rw[<-M];exact Vt (f:=λp:V e×G=>(lx p.1,p.2)) l
  let ⟨m,m1,K,X⟩:=Vr U;let ⟨e1,e2⟩:=Prod.mk.inj K;refine⟨m,m1,e1,e2,?_⟩;rw[<-e1,fY<|hq p l]at X;exact X
 have g:∀p∈d,jt p.1/\(∀i,QS 20 (E p.1 i 0))/\1<=p.2:=λp l=>by
  let ⟨m,m1,K,X,m4⟩:=C p l;have hm:Mo (lx p.1):=by rw[K];exact Vq B _
  let ⟨i1,i2⟩:=H.irH (hq p l) hm (by rw[K,<-hF];exact aqB m1) m4 (by rw[K];exact aqw B m);exact⟨i1,i2,O⟩
 have I:∀x∈gh ir d,∃p∈d,x.1∈ir p.1/\x.2=p.2:=λx s=>by let ⟨p,l,s⟩:=jb.1 s;obtain⟨u,W,rfl⟩:=iJ.1 s;exact⟨p,l,W,J⟩
 have P:∀x∈gh ir d,E x.1 (Z x.1-1) 0=1/\bq (lx x.1)/\1<=x.2:=λx s=>by let ⟨p,l,U,D⟩:=I x s;let ⟨i1,_,i2,i3⟩:=(hI p.1 (g p l).1 (g p l).2.1).1 _ U;exact⟨i1,i3,by rw[D];exact(g p l).2.2⟩
 have t:g8 (gh ir d)=lx (dr a):=by
  rw[aeT λp l=>(hI p.1 (g p l).1 (g p l).2.1).2,aeM,M,aeP B,<-hF];refine xP λx s=>?_
  have U:=B.pos x s;have D:=Tq B s;rw[hF,H.JO]at D;exact b O
 have c:Z (gh ir d)<=8:=by have:=(aeU λx s=>(P x s).2).2;rw[t,H.JO]at this;have:=H.l9;omega
 have j:(gh ir d).Pairwise (λx y=>x.1≠y.1):=by
  have N:d.Pairwise (λx y=>x.2≠y.2):=by have:=aeQ (L:=L) (Z a) 1;rw[<-M]at this;exact(Fg (R:=λx y:Rx×G=>x.2≠y.2)).1 this
  have go:∀{o:V (V e×G)},(∀p∈o,p∈d)->o.Pairwise (λx y=>x.2≠y.2)->(gh ir o).Pairwise (λx y=>x.1≠y.1):=by
   intro o;induction o with
   |nil=>intro _ _;exact JK
   |cons p o ih=>
    intro M l
    let ⟨p1,p2⟩:=jR.1 l
    have k:=M p az
    refine xZ.2 ⟨?_,ih (λA hq=>M A<|by simp[hq]) p2,λx s y hy S=>?_⟩
    .let ⟨i1,i2⟩:=hI p.1 (g p k).1 (g p k).2.1;refine Fg.2<|aeR (λu W=>(i1 u W).2.2.2) λQ hQ r=>?_;rw[i2]at r;exact aqx (g p k).1.co hQ r
    .obtain⟨u,W,rfl⟩:=iJ.1 s;let ⟨A,w,hy'⟩:=jb.1 hy;obtain⟨v,hv,rfl⟩:=iJ.1 hy';have S:u=v:=S;subst S;have T:=M A (by simp[w]);let ⟨m,m1,K,X,_⟩:=C p k;let ⟨n,n1,n2,n3,_⟩:=C A T;let ⟨i1,i2⟩:=hI p.1 (g p k).1 (g p k).2.1;let ⟨j1,j2⟩:=hI A.1 (g A T).1 (g A T).2.1;let ⟨_,_,um,F⟩:=i1 u W;have d1:lx u∣pF (kP m) L:=by rw[<-K,<-i2];exact O4 W
     have d2:lx u∣pF (kP n) L:=by rw[<-n2,<-j2];exact O4 hv
     let ⟨x,x1,x2,x3⟩:=zA F d1;let ⟨y,y1,y2,y3⟩:=zA F d2;have ex:=F.eq (B.fI x x1) um (B.mo x x1) x3;have ey:=F.eq (B.fI y y1) um (B.mo y y1) y3;have kx:x.2=m:=Tc.1 (by have:=IM m x.2;omega);have ky:y.2=n:=Tc.1 (by have:=IM n y.2;omega);by_cases z:x=y
     .refine p1 A w ?_;rw[X,n3,<-kx,<-ky,z]
     .exact FL.Tb B.B0 x1 y1 z (by rw[<-ex,<-ey])
  exact go (λp l=>l) N
 refine⟨g,c,λx s=>?_,P,t,j⟩
 .let ⟨U,D,h3⟩:=P x s;let ⟨h4,h5⟩:=aqz U;have r:lx x.1∣lx (dr a):=by rw[<-t];exact aeV s h3
  have hl:=jJ r H.mo.ne;rw[fY h4,H.JO]at hl;have:=H.l9;exact⟨O,λi=>H.qs h5 r i⟩
end
end Go.El
namespace Go.El
open Go Go.Proofs Go.RowKit
def aeZ{L:V (Rx×Y)}:∀k n,Z (n5 L k n)<=k
 |0,_=>aO _
 |k+1,n=>by
  have:=aeZ (L:=L) k<|n+1;rw[n5,iq];split
  .rw[s3];omega
  .rw[nb];omega
open Rx
def Vu{M}(l:Mo M)(g:dq M)(m:2<=sz M)(i:∀u v:Rx,Mo u->Mo v->dq u->dq v->M=u*v->2<=sz u->sz u<=sz v->False):bq M:=by
 refine⟨m,λA B e=>eZ λk=>?_⟩;let ⟨u,v,a,d,f,n,o⟩:=T7 l e (λe=>k<|.inl e)<|λe=>k<|.inr e;rw[f]at g;let ⟨i1,i2⟩:=N5 a d g;rcases Nat.le_total (sz u) (sz v)with hl|hl
 .exact i u v a d i1 i2 f n hl
 .exact i v u d a i2 i1 (f.trans<|Rx.mul_comm u v) o hl
def CP l i:lx (l.map iQ) i=((E l i 0:G):e):=by rw[fX,aK,jh,aK];cases l[i]? <;>rfl
def Vv(l:V G):dq (lx<|l.map iQ):=dq.of λi=>⟨_,CP l i⟩
def aqE l i:nu (lx<|l.map iQ) i=E l i 0:=by show(lx (l.map iQ) i).num=_;rw[CP];rfl
def ae0{l}{n}(a:Z l=n+1)(d:E l n 0=1):bI (l.map iQ):=by refine .inr ?_;rw[cy,a,eK];have:=CP l n;rw[fX]at this;rw[this,d];decide
def Aq{l}{n}(a:Z l=n+1)(d:E l n 0=1):sz (lx<|l.map iQ)=n+1:=by rw[fY (ae0 a d),cy,a]
def Vw{l}{n}(d:Z l=n+1)(a:E l n 0=1):Mo (lx<|l.map iQ):=by show lx (l.map iQ) (sz (lx<|l.map iQ)-1)=1;rw[Aq d a,eK,CP,a];rfl
def Ar{a d m}(f:m=a*d)(g:m≠0):aC a<=aC m:=by
 rw[f,rQ];have:d≠0:=λe=>g (by rw[f,e,gY])
 exact oy _ O
def As{A}(a:Mo A){n}(d:sz A=n+1):nu A n=1:=by show(A n).num=1;rw[a.at d];rfl
section
variable{l:V G}{u v:Rx}
def yg(d:dq u)(f:dq v)(g:lx (l.map iQ)=u*v) i:E l i 0=sm (λa=>nu u a*nu v (i-a)) (i+1):=by rw[<-aqE,g,Cd d f,PS.fF]
end
def Vx{l}{d f}(s:l=[d,f,1])(t:∀a g:G,d=a*g->f=a+g->False):bq (lx<|l.map iQ):=by subst s;refine Vu (Vw (n:=2) J J) (Vv _) (by rw[Aq (n:=2) J J];decide) ?_;intro u v i k m o e K s2;have x:=eh i.ne k.ne;rw[<-e,Aq (n:=2) J J]at x;have y:sz u=1+1:=O;have A:sz v=1+1:=O;have B:=As i y;have C:=As k A;have p:=yg m o e 0;have H:=yg m o e 1;simp[sm,B,C]at p H;exact t (nu u 0) (nu v 0) p O
def ae1{l}{g i k}(A:l=[g,i,k,1])(B:∀a m o:G,g=a*o->i=a*m+o->k=a+m->False):bq (lx<|l.map iQ):=by subst A;refine Vu (Vw (n:=3) J J) (Vv _) (by rw[Aq (n:=3) J J];decide) ?_;intro u v p s d f e Q s2;have C:=eh p.ne s.ne;rw[<-e,Aq (n:=3) J J]at C;have H:sz u=1+1:=O;have K:sz v=2+1:=O;have L:=As p H;have M:=As s K;have P:nu u 2=0:=wq O;have t:=yg d f e 0;have x:=yg d f e 1;have y:=yg d f e 2;simp[sm,L,M,P]at t x y;exact B (nu u 0) (nu v 1) (nu v 0) t x y
def ae2{l}{o p s t}(Q:l=[o,p,s,t,1])(T:∀a f g d:G,o=a*d->p=a*g+d->s=a*f+g->t=a+f->False)(U:∀a f g d:G,o=f*d->p=f*g+a*d->s=f+a*g+d->t=a+g->False):bq (lx<|l.map iQ):=by
 subst Q;refine Vu (Vw (n:=4) J J) (Vv _) (by rw[Aq (n:=4) J J];decide) ?_;intro u v x y i k e q s2;have W:=eh x.ne y.ne;rw[<-e,Aq (n:=4) J J]at W;have m:=yg i k e 0;have A:=yg i k e 1;have B:=yg i k e 2;have C:=yg i k e 3;by_cases H:sz u=1+1
 .have K:sz v=3+1:=by omega
  have X:=As x H;have L:=As y K;have M:nu u 2=0:=wq O;have P:nu u 3=0:=wq O;simp[sm,X,L,M,P]at m A B C;exact T (nu u 0) (nu v 2) (nu v 1) (nu v 0) m A B C
 .have H:sz u=2+1:=by omega
  have K:sz v=2+1:=O;have M:=As x H;have j:=As y K;have P:nu u 3=0:=wq O;have L:nu v 3=0:=wq O;simp[sm,M,j,P,L]at m A B C;exact U (nu u 1) (nu u 0) (nu v 1) (nu v 0) m O O O
def ae3{a k}(d:a*a=k)(g:k<36):∃n:Y,n<=5/\(n:G)*n=k:=by
 refine⟨aC a,?_,by rw[aqF a];exact d⟩;refine eZ λi=>?_
 have f:6<=aC a:=O;have:=mL f f;have l:((aC a*aC a:Y):G)=k:=by rw[fD,aqF a];exact d
 omega
def aqG:bq (lx<|([-2,0,1]:V G).map iQ):=Vx J λa b d f=>by have g:=Ar d D;have:a= -2\/a= -1\/a=0\/a=1\/a=2:=O;rcases this with rfl|rfl|rfl|rfl|rfl<;>omega
def aqH:bq (lx<|([1,0,1]:V G).map iQ):=Vx J λa b d f=>by have g:=Ar d D;have:a= -1\/a=0\/a=1:=O;rcases this with rfl|rfl|rfl<;>omega
def aqI:bq (lx<|([-2,0,0,1]:V G).map iQ):=ae1 J λa b c d f g=>by have i:=Ar d D;have:a= -2\/a= -1\/a=0\/a=1\/a=2:=O;rcases this with rfl|rfl|rfl|rfl|rfl<;>omega
def aqJ:bq (lx<|([1,1,1]:V G).map iQ):=Vx J λa b d f=>by have g:=Ar d D;have:a= -1\/a=0\/a=1:=O;rcases this with rfl|rfl|rfl<;>omega
def aqK:bq (lx<|([-1,-1,0,1]:V G).map iQ):=ae1 J λa b c d f g=>by have i:=Ar d D;have:a= -1\/a=0\/a=1:=O;rcases this with rfl|rfl|rfl<;>omega
def ae4{a f g d m}(i:1=f*d)(l:m=f+a*g+d)(s:0=a+g)(t:m=0\/m= -10):False:=by
 have u:=Ar i D;have e:g= -a:=O;subst e;rw[Int.mul_neg]at l;have:f= -1\/f=0\/f=1:=O;rcases this with rfl|rfl|rfl
 .have:d= -1:=by omega
  subst this;obtain⟨n,o,p⟩:=ae3 (a:=a) (k:= -2-m) O O;have:n=0\/n=1\/n=2\/n=3\/n=4\/n=5:=O;rcases this with rfl|rfl|rfl|rfl|rfl|rfl<;>omega
 .omega
 .have:d=1:=by omega
  subst this;obtain⟨n,o,p⟩:=ae3 (a:=a) (k:=2-m) O O;have:n=0\/n=1\/n=2\/n=3\/n=4\/n=5:=O;rcases this with rfl|rfl|rfl|rfl|rfl|rfl<;>omega
def aqL:bq (lx<|([1,0,0,0,1]:V G).map iQ):=ae2 J (λa b c d f k g i=>by have l:=Ar f D;have:a= -1\/a=0\/a=1:=O;rcases this with rfl|rfl|rfl<;>omega) λa b c d f k g i=>ae4 f g i<|.inl J
def aqM:bq (lx<|([1,0,-10,0,1]:V G).map iQ):=ae2 J (λa b c d f k g i=>by have l:=Ar f D;have:a= -1\/a=0\/a=1:=O;rcases this with rfl|rfl|rfl<;>omega) λa b c d f k g i=>ae4 f g i<|.inr J
def aqN:bq (lx<|([-3,1]:V G).map iQ):=ap'<|Aq (n:=1) J J
def aqO{f:Type}{l}{i}(d:f)(a:i<Z l):E l i d∈l:=by rw[aK,cO a];exact sF a
def aqP(l:V (G×G×G))(a:Y)(k:a<=1000)(o:∀x∈l,lj x):r q 13 [I RW l,R a] (I .q<|zL l a):=by
 refine aI Tryz.func13<|vJ 0 J λm=>?_;have m:Z l*3<=140737488355328:=m;refine N J<|F<|fT .q [] J J (z J<|j<|N J ?_);refine au<|a8 (α:=Y) (λi=>⟨[(0,I RW l),(1,R a),(5,.c<|.X 1000000),(6,R i)],[(1000000,.vec 44 .q<|(c i l).map qQ)],3,[]⟩) (λi=>i<=Z l/\i<=a+1) (λi=>Z l-i) 0 ⟨aY _,aY _⟩ aM ?_;rintro i ⟨t,p⟩;refine j<|F<|rg 12 J J (λd=>?_)<|λd=>?_
 .have d:i<Z l:=by have d:(i:G)<(Z l:G):=aU d;omega
  refine z J<|al J (λh2=>?_)<|λh2=>?_
  .have h2:i<=a:=by have h2:(i:G)<=a:=aU h2;omega
   have f:=Cb qQ (0,0,0) l i d;have s:=o (E l i (0,0,0))<|aqO _ d;have n:=am9 (E l i (0,0,0)) s;rw[(JP:E l i (0,0,0)=E l (af (i:G)) RW.dE)]at n f;refine aD<|j<|au<|cu<|rc J J n (rl .q [qQ (E l (af (i:G)) RW.dE)] J J (ra J J J J J J J J J ?_ ?_<|z J<|bw<|rt J<|aT (i+1) ⟨O,O⟩ wm<|Wk.trans (wk (st':=⟨[(0,I RW l),(1,R a),(5,.c<|.X 4007000),(6,R ((i+1:Y):G))],[(4007000,.vec 44 .q<|(c (i+1) l).map qQ)],6,[]⟩) ⟨sR J,sR J,sR J,sE J ?_,h⟩ ⟨bE J ?_,h⟩)<|Wk.trans (fU 1000000 4007000 J J J) aM)) (hp:=?_)
   .show(_+1+(_+1)/4+192)*64<=_;simp only[cy,eL];omega
   .show(_+1)*4<=_;simp only[cy,eL];omega
   .rfl
   .rw[f]
   .simp only[Pr.an,Pr.h,num,gT,true_and,and_true];first|done|omega
  .have h2:¬i<=a:=by have h2:¬(i:G)<=a:=a6 h2;omega
   have g:=B5 ((c i l).map qQ) zN;rw[show fC ((c i l).map qQ)=zL l a by rw[zL,(O:i=a+1)]]at g;exact a7<|aL<|cY 1000000 J J J<|bt J J g J<|cw J
 .have d:i=Z l:=by have d:¬(i:G)<(Z l:G):=a6 d;omega
  have g:=B5 ((c i l).map qQ) zN;rw[show fC ((c i l).map qQ)=zL l a by rw[zL,iY O,iY O]]at g;refine z J<|al J (λh2=>mM)<|λ_=>?_;exact a7<|aL<|cY 1000000 J J J<|bt J J g J<|cw J
def ae5{x}(a:lj x):lj (xS x):=⟨a.1,a.2.1,hO 0,(by decide:(0:G)<=255)⟩
def aqQ(l:V (G×G×G))(a:Y)(g:a<=1000)(m:∀x∈l,lj x):r q 28 [I RW l,R a] (I .q<|oG l a):=by
 refine aI Tryz.func28<|vJ 0 J λk=>?_;have k:Z l*3<=140737488355328:=k;refine N J<|F<|fT RW [] J J (z J<|j<|N J ?_);refine au<|a8 (α:=Y) (λi=>⟨[(0,I RW l),(1,R a),(5,.c<|.X 1000000),(6,R i)],[(1000000,.vec 57 RW<|(c i l).map xS)],3,[]⟩) (λi=>i<=Z l) (λi=>Z l-i) 0 (aY _) aM ?_;intro i s;refine j<|N J<|al J (λd=>?_)<|λd=>?_
 .have d:i<Z l:=by have d:(i:G)<(Z l:G):=aU d;omega
  have f:=Cb xS (0,0,0) l i d;rw[(JP:E l i (0,0,0)=E l (af (i:G)) RW.dE)]at f;refine aD<|j<|au<|cu<|rl RW [xS (E l (af (i:G)) RW.dE)] J J (ra J J J J J J J J J ?_ ?_<|z J ?_) (hp:=aF)
  .show(_+1+(_+1)/4+192)*3<=_;simp only[cy,eL];omega
  .show(_+1)*3<=_;simp only[cy,eL];omega
  .refine bw (rt J (hp:=aF)<|aT (i+1) d wm<|Wk.trans (wk (st':=⟨[(0,I RW l),(1,R a),(5,.c<|.X 4013000),(6,R ((i+1:Y):G))],[(4013000,.vec 57 RW<|(c (i+1) l).map xS)],6,[]⟩) ⟨sR J,sR J,sR J,sE J ?_,h⟩ ⟨bE J ?_,h⟩)<|Wk.trans (fU 1000000 4013000 J J J) aM)
   .rfl
   .rw[f]
 .have d:i=Z l:=by have d:¬(i:G)<(Z l:G):=a6 d;omega
  subst d;rw[fR];have n:=aqP (l.map xS) a g (λx o=>by obtain⟨y,p,rfl⟩:=iJ.1 o;exact ae5<|m y p);exact a7<|aL<|cY 1000000 J J J<|bt J J n J<|cw J
def aqR{a}(s:bI a)(n:a≠[]){k B}(y:0<k)(o:∀i,∃f:G,aC f<=B/\((k:Y):e)*E a i 0=(f:e)):∃p,p<=B/\CD p B (lx<|dr a):=by
 have l:((k:Y):e)≠0:=xQ O;let ⟨w,t,g⟩:=o<|Z a-1;have u:=s.ne n;have v:w≠0:=λd=>by
  rw[d]at g;rcases zv.1 g with d|d
  .exact l d
  .exact u d
 refine⟨aC w,t,⟨O,λi=>?_⟩⟩;let ⟨f,x,h2⟩:=o i;rw[uI n,fh,fX];rcases Int.lt_or_gt_of_ne v with m|m
 .refine⟨-f,O,?_⟩;have d:((aC w:Y):e)= -(w:e):=by rw[<-r9,(O:((aC w:Y):G)= -w),IS]
  rw[d,IS,<-h2,<-g];grind
 .refine⟨f,x,?_⟩;have d:((aC w:Y):e)=(w:e):=by rw[<-r9,(O:((aC w:Y):G)=w)]
  rw[d,<-h2,<-g];grind
def aqS{a}(l:bI a)(n:a≠[])(p:Z a<=9){D}(s:0<D)(g:D<=2^22)(o:∀i,∃f:G,aC f<=2^22/\((D:Y):e)*E a i 0=(f:e)):oc a:=by
 have d:∀{m:Y},m<=2^22->m<=2^1500:=λh=>bm h<|Rx.Nt 1500 (k:=22) ae6
 let ⟨c,c1,t⟩:=aqR l n s o;refine⟨l,n,p,⟨(D:G),O,d g,λi=>?_⟩,⟨c,22,22,t,c1,ae6,O⟩⟩;let ⟨f,u,h2⟩:=o i;exact⟨f,d u,h2⟩
end Go.El
namespace Go.El
open Go Go.Proofs Go.RowKit Fx
def Vy{P:Y->Prop}(a:∃n,P n):∃n,P n/\∀k,k<n->¬P k:=by
 let ⟨n,d⟩:=a;induction n using Nat.strongRecOn with
 |_ n f=>
  by_cases e:∃k,k<n/\P k
  .let ⟨k,g,h2⟩:=e;exact f k g h2
  .exact⟨n,d,λk i l=>e ⟨k,i,l⟩⟩
section
variable{p:Y}
def aqT(H:br p)(A B:Fx p) i:pk (A-B) (p^i)=pk A (p^i)-pk B (p^i):=
 xL (by rw[<-NO H,kA])
def ae7(H:br p){Q:Fx p}(d:bq Q){i m}(a:Q∣pk X (p^(i+m))-pk X (p^i)):Q∣pk X (p^m)-X:=by rw[k4,gG,uE,<-aqT H]at a;exact OW H d _ a
def ae8(H:br p)(i:Y):∀a:V G,ev (a.map<|K (p:=p)) (pk X<|p^i)=pk (fx<|a++[1]) (p^i)
 |[]=>by rw[tS,Ch,BY];rfl
 |d::a=>by rw[m7,I7,NO H,TS H,uF,<-ae8 H i a];rfl
def aqU(H:br p){d}(l:Mon p d)(o:bq (fx d:Fx p)):(fx d:Fx p)∣pk X (p^(Z d-1))-X:=by
 have z:sz (fx d:Fx p)=Z d:=dc l.c;have D:2<=Z d:=by have:=o.1;omega
 have x:=H.hp.1;have ex:∃m,0<m/\(fx d:Fx p)∣pk X (p^m)-X:=by
  have f:=λi=>yc H l.c l.ne<|pk X<|p^i
  have s:∀i r,af (E (iv H d<|pk X<|p^i) r 0)<p:=λi r=>by have:=((f i).1.1 r);omega
  let ⟨i,j,F,_,A⟩:=NK (p^(Z d-1)) (p^(Z d-1)+1) (λi=>code p (λr=>af<|E (iv H d<|pk X<|p^i) r 0)<|Z d-1) (dK _) λi _=>I5 _ _ λr _=>s i r
  have B:=TL _ _ _ (λr _=>s i r) (λr _=>s j r) A;have e:iv H d (pk X<|p^i)=iv H d (pk X<|p^j):=by
   refine uM (p:=p) (f i).1 (f j).1<|mk_eq.2<|Cg.of λr=>?_;by_cases t:r<Z d-1
   .have I:=(f i).1.1 r;have J:=(f j).1.1 r;have N:=B r t;show E (iv H d<|pk X<|p^i) r 0%_=E (iv H d<|pk X<|p^j) r 0%_;have:E (iv H d<|pk X<|p^i) r 0=E (iv H d<|pk X<|p^j) r 0:=O;rw[this]
   .have R:=(f i).2.1;have S:=(f j).2.1;show E (iv H d<|pk X<|p^i) r 0%_=E (iv H d<|pk X<|p^j) r 0%_;rw[fp _ O,fp _ O]
  obtain⟨m,rfl⟩:∃m,j=i+m:=⟨j-i,O⟩;refine⟨m,O,ae7 H o (i:=i) ?_⟩;have u:=(f i).2.2;rw[e]at u;exact nz<|lT (nz u) (f<|i+m).2.2
 let ⟨m,⟨C,m1⟩,L⟩:=Vy ex;have M:¬m+1<sz (fx d:Fx p):=λh=>abX H o C h m1
 obtain⟨g,rfl⟩:∃g,d=g++[1]:=⟨d.dropLast,by
  have e:=Vz l.ne;have P:d.getLast l.ne=1:=by have:=l.one;rw[aK,cO O]at this;rw[aqV];exact this
  rw[P]at e;exact e.symm⟩
 have t:Z (g++[(1:G)])=Z g+1:=az;have Q:m<=Z g:=by
  refine eZ λV=>?_
  refine roots H o (g.map<|K (p:=p)) ((bX m).map λi=>pk X<|p^i) b8 (λy T=>?_) ?_
  .obtain⟨i,_,rfl⟩:=iJ.1 T;rw[ae8 H];obtain⟨k,U⟩:∃k,p^i=k+1:=⟨p^i-1,by have:=gQ (n:=i) (O:0<p);omega⟩;rw[U,pk];exact dvd_mul_left _ _
  .refine Fg.2<|NQ ?_ Ke;intro a b Y v W w;have v:=l3.1 v;obtain⟨k,rfl⟩:∃k,b=a+k:=⟨b-a,O⟩;exact L k O ⟨O,ae7 H o<|nz w⟩
 rw[t];have:m=Z g:=O;rwa[this]at m1
end
def MD.mul{d f}{l K}(g:MD d l)(k:MD f K):MD (d+f) (l*K):=by
 refine⟨?_,λi m=>?_⟩
 .rw[PS.fF,xT (a:=d) O λi m n=>?_]
  .rw[(O:d+f-d=f),g.one,k.one];rfl
  .by_cases c:d<i
   .rw[g.z i c,nq]
   .rw[k.z _ O,gY]
 .rw[PS.fF,qF λj o=>?_];by_cases c:d<j
  .rw[g.z j c,nq]
  .rw[k.z _ O,gY]
section
variable{p:Y}
def ae9(H:br p){f:V G}:∀{l:V (V G)},(∀y∈l,Co (fx f:Fx p) (fx y))->Co (fx f:Fx p) (gf l)
 |[],_=>⟨0,1,by rw[zero_mul,zero_add];exact one_mul 1⟩
 |y::l,a=>(a y az).mul (ae9 H λd g=>a d<|by simp[g])
end
structure F1(p k:Y)(f:V G)(l X:V (V G)):Prop where
 len:X.length=l.length
 ok:∀i,i<l.length->aJ (X.getD i [])/\(X.getD i []).length=(l.getD i []).length/\(fx (X.getD i []):Fx p)=fx (l.getD i [])/\∀a,dH ((X.getD i []).getD a 0) ((p:G)^k)=(X.getD i []).getD a 0
 pr:Cg ((p:G)^k) (ps f) (pN X)
section
variable{p:Y}
def ae'(H:br p){a:Fx p}{d}(k:a≠0)(s:2<=sz a)(l:∀Q,bq Q->Q∣a->d+1<=sz Q)(u:sz a<=2*d):bq a:=by
 refine⟨s,λA B e=>?_⟩;have f:A≠0:=λg=>k (by rw[e,g,zero_mul])
 have i:B≠0:=λg=>k (by rw[e,g,mul_zero])
 have t:=eh H f i;have pA:=fq H.pos f;have v:=fq H.pos i;rw[<-e]at t;refine eZ λm=>?_
 have x:sz A≠1:=λe=>m<|.inl e
 have y:sz B≠1:=λe=>m<|.inr e
 let ⟨Q,q1,n⟩:=tk H _ A (dK _) O;let ⟨R,r1,o⟩:=tk H _ B (dK _) O;have C:=l Q q1 (by rw[e];exact kD n B);have K:=l R r1 (by rw[e];exact dw o A);have L:=jJ H n f;have M:=jJ H o i;omega
def afa(H:br p){Q}(f:bq Q):∃d,Mon p d/\bq (fx d:Fx p)/\(fx d:Fx p)∣Q/\Q∣fx d/\Z d=sz Q:=by
 obtain⟨a,g,rfl⟩:=jr H.pos Q;have m:a≠[]:=λe=>f.ne H (by rw[e,kF])
 let ⟨m1,k,n,⟨c,o⟩,l⟩:=NT H g m;refine⟨lR p a,m1,⟨?_,λA B e=>?_⟩,n,⟨K c,o⟩,by rw[k,dc g]⟩
 .have:=f.1;rw[dc g]at this;rw[dc m1.c,k];exact this
 .rw[e,<-mul_assoc]at l;rcases f.2 _ _ l with h|h
  .let ⟨s,i⟩:=wc H h;exact .inl (xN H (B:=s*K (E a (Z a-1) 0))<|by rw[mul_assoc];exact i)
  .exact .inr h
structure CQ(p:Y)(f:V G)(d:Y):Prop where
 aJ:Mon p f
 lV:qU (fx f:Fx p)
 low:∀Q,bq Q->Q∣(fx f:Fx p)->d+1<=sz Q
structure sn(p:Y)(f:V G)(d:Y):Prop where
 aJ:Mon p f
 lV:qU (fx f:Fx p)
 CR:∀Q,bq Q->Q∣(fx f:Fx p)->sz Q=d+1
def CQ.fI(H:br p){f}{d}(a:CQ p f d)(g:2<=Z f)(i:Z f<=2*d):bq (fx f:Fx p):=
 ae' H (a.aJ.kH H) (by rw[dc a.aJ.c];exact g) a.low (by rw[dc a.aJ.c];exact i)
def sn.fI(H:br p){f}{d}(a:sn p f d)(g:2<=Z f)(l:Z f<=d+1)(m:1<=d):bq (fx f:Fx p):=
 ae' H (d:=d) (a.aJ.kH H) (by rw[dc a.aJ.c];exact g) (λQ i k=>by rw[a.CR Q i k];exact aO _) (by rw[dc a.aJ.c];omega)
def sn.ex(H:br p){f}{d}(g:sn p f d)(k:2<=Z f):∃a,Mon p a/\bq (fx a:Fx p)/\(fx a:Fx p)∣fx f/\Z a=d+1:=by let ⟨Q,q1,i⟩:=tk H _ (fx f:Fx p) (dK _) (by rw[dc g.aJ.c];exact k);let ⟨a,r1,l,m,o,n⟩:=afa H q1;exact⟨a,r1,l,dvd_trans m i,by rw[n,g.CR Q q1 i]⟩
def IP(H:br p){f g}(d:Mon p f)(a:Mon p g):(aS f g p).1.length=Z f-(Z g-1):=by let ⟨_,_,_,_,_,h⟩:=mi H.hp H.le d.c.1 a.c a.ne;exact h
def tC(H:br p){f g}(d:Mon p f)(a:Mon p g)(i:(fx g:Fx p)∣fx f):Mon p (aS f g p).1/\(fx f:Fx p)=fx (aS f g p).1*fx g/\(aS f g p).1.length+Z g=Z f+1/\Z g<=Z f:=by
 have k:Z g<=Z f:=by have:=jJ H i<|d.kH H;rwa[dc a.c,dc d.c]at this
 have l:=a.pos;have:=IP H d a;exact⟨TU H d a k,zE H d.c a.c a.ne i,O,k⟩
def sn.parts(H:br p){f g}{d}(a:sn p f d)(n:Mon p g)(k:(fx g:Fx p)∣fx f):sn p g d/\sn p (aS f g p).1 d:=by let ⟨q1,q2,o,s⟩:=tC H a.aJ n k;have i:(fx (aS f g p).1:Fx p)∣fx f:=OX;exact⟨⟨n,a.lV.of_dvd k,λQ l m=>a.CR Q l<|dvd_trans m k⟩,⟨q1,a.lV.of_dvd i,λQ l m=>a.CR Q l<|dvd_trans m i⟩⟩
def uZ.app{f g}{l m}{a}(d:uZ p g l)(i:uZ p f m)(k:(fx a:Fx p)=fx f*fx g):uZ p a (l++m):=
 ⟨λx n=>(bg.1 n).elim (d.parts x)<|i.parts x,by rw[JG,d.prod,i.prod,k,mul_comm]⟩
def CQ.step(H:br p){f t s}{d}(a:CQ p f d)(W:1<=d)(L:bA p s)(x:(fx f:Fx p)∣fx t-pk X (p^d))(y:(fx s:Fx p)=fx t-X):sn p (gy p f s) d/\CQ p (aS f (gy p f s) p).1 (d+1)/\(fx (gy p f s):Fx p)∣fx f:=by
 let ⟨m1,l,K,U,V,M⟩:=zY H a.aJ.c L a.aJ.ne;let ⟨q1,q2,b,j⟩:=tC H a.aJ m1 l;generalize gy p f s=g at*;generalize (aS f g p).1=P at*;have i:(fx P:Fx p)∣fx f:=OX;refine⟨⟨m1,a.lV.of_dvd l,λQ m k=>?_⟩,⟨q1,a.lV.of_dvd i,λQ m k=>?_⟩,l⟩
 .have T:=a.low Q m<|dvd_trans k l;have o:Q∣fx t-X:=by rw[<-y];exact dvd_trans k K
  have u:Q∣pk X (p^d)-X:=lT (nz<|dvd_trans (dvd_trans k l) x) o;have A:¬d+1<sz Q:=λv=>abX H m O v u
  omega
 .have T:=a.low Q m<|dvd_trans k i;refine eZ λr=>?_
  let ⟨q,r1,B,C,w,z⟩:=afa H m;have n:(fx q:Fx p)∣fx f:=dvd_trans C<|dvd_trans k i;have o:=aqU H r1 B;rw[(O:Z q-1=d)]at o;have u:(fx q:Fx p)∣fx s:=by rw[y];exact lT (dvd_trans n x) o
  have A:(fx q:Fx p)∣fx g:=by rw[M];exact dvd_add (dw n U)<|dw u V
  exact a.lV _ B (by rw[q2];exact xO (dvd_trans C k) A)
structure so(p:Y)(f a:V G):Prop where
 aJ:Mon p a
 lV:qU (fx a:Fx p)
 iff:∀Q,bq Q->(Q∣(fx f:Fx p)↔Q∣fx a)
 len:a.length<=f.length
def so.one(H:br p){f}(a:Mon p f)(k:Z f<=1):so p f f:=
 ⟨a,λQ d g=>by have i:=jJ H g<|a.kH H;have l:=eh H (d.ne H)<|d.ne H;have m:=d.1;rw[dc a.c]at i;omega,λQ _=>Iff.rfl,aO _⟩
def so.root(H:br p){f d}(i:Mon p f)(k:2<=Z f)(l:bC (fx f:Fx p)=0)(a:so p (mV p f<|jD p<|Z f) d):so p f d:=by
 let ⟨s,m,t,u⟩:=aet H i k l;refine⟨a.aJ,a.lV,λQ g=>?_,by have:=a.len;omega⟩;rw[<-a.iff Q g,m];refine⟨OW H g p,λn=>?_⟩;obtain⟨q,o⟩:∃q,p=q+1:=⟨p-1,Cj⟩;have e:pk (fx (mV p f<|jD p<|Z f):Fx p) p=pk (fx<|mV p f<|jD p<|Z f) (q+1):=by rw[<-o]
 rw[e];exact dw n _
def VA(H:br p){a d}(f:Mon p a)(g:Mon p d):Mon p (cT a d p)/\Z (cT a d p)+1=Z a+Z d:=by have k:=(nv H.pos a d);have o:=wu (p:=p) a d;have i:=eh H (f.kH H)<|g.kH H;rw[<-o,dc k,dc f.c,dc g.c]at i;have t:=f.pos;have u:=g.pos;refine⟨⟨k,λe=>by rw[e]at i;simp at i;omega,?_⟩,i⟩;have l:=(show aJ a from⟨f.ne,f.one⟩).uO.mul (show aJ d from⟨g.ne,g.one⟩).uO;have m:=(EP a d (p:G)).at (Z a-1+(Z d-1));rw[l.one,H.one,cH]at m;have s:Z (cT a d p)-1=Z a-1+(Z d-1):=O;rw[s];have n:=k.1<|Z a-1+(Z d-1);rwa[gX n.1 n.2]at m
def so.step(H:br p){f m g rest y}(n:Mon p f)(h2:2<=Z f)(o:bA p m)(W:(fx m:Fx p)=bC (fx f))(A:m≠[])(eg:g=gy p f m)(l:so p g rest)(ec:y=gy p (aS f g p).1 rest):Z g<Z f/\so p f (cT (aS f g p).1 (aS rest y p).1 p):=by
 let ⟨m1,X,b,U,V,j⟩:=zY H n.c o n.ne;rw[<-eg]at m1 X b j;have I:Z g<=Z f-1:=by
  have B:(fx m:Fx p)≠0:=λe=>by rw[<-kF]at e;exact A<|uM o (rV H.pos) e
  have J:=jJ H b B;have C:=Nj H (fx f:Fx p);rw[<-W,dc n.c]at C;rw[dc m1.c]at J;omega
 let ⟨q1,q,Y,q4⟩:=tC H n m1 X;have K:qU (fx (aS f g p).1:Fx p):=abY H (n.kH H) q (by rw[<-W];exact j);generalize (aS f g p).1=part at*;let ⟨L,r,z,S,T,E⟩:=zY H q1.c l.aJ.c q1.ne;rw[<-ec]at L r z E;let ⟨r1,s,r3,r4⟩:=tC H l.aJ L z;generalize (aS rest y p).1=d at*;have e:(fx (cT part d p):Fx p)=fx part*fx d:=wu part d;let ⟨t1,t2⟩:=VA H q1 r1;have pc:=L.pos;refine⟨O,⟨t1,λQ a M=>?_,λQ a=>?_,by have:=l.len;omega⟩⟩
 .rw[e]at M;have P:Q∣fx part->Q∣fx d->False:=λi t=>by
   have u:Q∣fx rest:=by rw[s];exact kD t _
   have N:Q∣fx y:=by rw[E];exact dvd_add (dw i S)<|dw u T
   exact l.lV Q a (by rw[s];exact xO t N)
  by_cases k:Q∣fx part
  .let ⟨w,hw⟩:=k;let ⟨v,F⟩:=M;have R:w*fx d=v*Q:=by refine zw H (a.ne H) (?_:w*fx d*Q=v*Q*Q);rw[hw]at F;rw[mul_assoc v,<-F];ac_rfl
   rcases a.nZ H ⟨v,R⟩with i|i
   .exact K Q a (by rw[hw];exact xO i<|dvd_refl Q)
   .exact P ⟨w,hw⟩ i
  .have x:Co Q (fx part):=(a.or H<|fx part).resolve_left k;have i:Q*Q∣fx d:=by have C:Co (fx part) (Q*Q):=x.symm.mul x.symm;exact C.symm.dvd (by exact M)
   exact l.lV Q a (by rw[s];exact kD i _)
 .rw[e,q];have G:=l.iff Q a;refine⟨λk=>?_,λk=>?_⟩
  .rcases a.nZ H k with k|k
   .exact kD k _
   .have t:=G.1 k;rw[s]at t;rcases a.nZ H t with u|u
    .exact dw u _
    .exact kD (dvd_trans u r) _
  .rcases a.nZ H k with k|k
   .exact kD k _
   .exact dw (G.2<|by rw[s];exact kD k _) _
def afb(H:br p){Q:Fx p}(a:bq Q):∀{l:V (V G)},Q∣iw p l->∃g∈l,Q∣fx g
 |[],d=>absurd d<|a.zy H
 |g::l,d=>by
  rcases a.nZ H (show Q∣fx g*iw p l from d)with k|k
  .exact⟨g,az,k⟩
  .let ⟨x,h1,h2⟩:=afb H a k;exact⟨x,zC,h2⟩
def afc(H:br p){f m}{l}(o:so p f m)(d:uZ p m l):CM p f l:=by
 refine⟨λg i=>?_,?_⟩
 .let ⟨u,g2,s⟩:=d.parts g i;exact⟨u,g2,s,(o.iff _ s).2<|by rw[<-d.prod];exact OU p i⟩
 .have n:∀l:V (V G),(∀g∈l,bq (fx g:Fx p))->iw p l∣fx m->l.Pairwise λx y=>x≠y:=by
   intro l;induction l with
   |nil=>intro _ _;exact JK
   |cons g l v=>
    intro t a
    refine jR.2 ⟨λk A e=>?_,v (λx hx=>t x mB) (dvd_trans (dvd_mul_left _ _) a)⟩
    subst e
    exact o.lV _ (t g az)<|dvd_trans (xO (dvd_refl _)<|OU p A) a
  exact n _ (λg i=>(d.parts g i).2.2) (by rw[d.prod];exact dvd_refl _)
def afd:∀(a:V (V G))(f:V G)(m:Y)(l:V (V G×G)),(∀x∈l,x∈(gW p m a (f,l)).2)/\∀g∈a,∃n,(g,n)∈(gW p m a (f,l)).2
 |[],f,m,l=>⟨λx hx=>hx,λg i=>by cases i⟩
 |g::a,f,m,l=>by
  let ⟨d,h2⟩:=afd a (pull p g (Z f+1) f 0).1 m<|l++[(g,(((pull p g (Z f+1) f 0).2:Y):G)*(m:G))];rw[gW];refine⟨λx hx=>d x mB,λx hx=>?_⟩;rcases b9.1 hx with rfl|hx
  .exact⟨_,d _<|gD _<|iK.2 J⟩
  .exact h2 x hx
def aqW(H:br p){f t}{l}(L:Mon p f)(u:so p f t)(i:uZ p t l):CN p (fx f) (gW p 1 l (f,[])).2:=by
 obtain⟨a,b,j⟩:=Vi H l f [] (u5.start L) (afc H u i);have d:∀Q,bq Q->Q∣fx (gW p 1 l (f,[])).1->False:=λQ k d=>by
  have C:Q∣fx f:=by rw[a.prod,r6];exact kD d _
  have x:=(u.iff Q k).1 C;rw[<-i.prod]at x;obtain⟨g,y,K⟩:=afb H k x;obtain⟨n,A⟩:=(afd l f 1 []).2 g y;have M:=a.nd _ A;have m:=(i.parts g y).2.2;obtain⟨w,B⟩:=K;rcases m.2 _ _ B with e|e
  .obtain⟨v,P⟩:=wc H e;refine M<|dvd_trans ⟨v,?_⟩ d;show Q=v*fx g;rw[B,<-mul_assoc,P,one_mul]
  .have:=k.1;omega
 have T:=a.aJ.pos;have U:(fx (gW p 1 l (f,[])).1:Fx p)=1:=by
  have o:(gW p 1 l (f,[])).1.length<=1:=by
   refine eZ λA=>?_
   obtain⟨Q,q1,W⟩:=tk H _ (fx (gW p 1 l (f,[])).1:Fx p) (dK _) (by rw[dc a.aJ.c];omega);exact d Q q1 W
  rw[<-Ch];congr 1;have s:=a.aJ.one;generalize (gW p 1 l (f,[])).1=X at*;match X,o,T,s with
  |[c],_,_,s=>rw[show c=1 from s]
 refine⟨a.fI,a.ds,?_⟩;have:=a.prod;rw[U,r6,one_mul]at this;exact this.symm
end
def mq(a:V G)(d:G)(f:V G):V G:=(bX<|Z a).map λi=>E a i 0+d*E f i 0
def JQ a d f:Z (mq a d f)=Z a:=by simp[mq]
def O5 a f d(g:Z d<=Z a) i:E (mq a f d) i 0=E a i 0+f*E d i 0:=by
 by_cases c:i<Z a
 .unfold mq;rw[aK,jh,k6 c];rfl
 .rw[fp _ (by rw[JQ];omega),fp a O,fp d O,gY];rfl
def afe a f d(g:Z d<=Z a):ps (mq a f d)=ps a+PS.K f*ps d:=PS.ext λi=>by rw[PS.eV,PS.fa];exact O5 a f d g i
def VB{a b}d(f:aJ a)(g:Z b<Z a):aJ (mq a d b):=by refine⟨λe=>by have:=JQ a d b;rw[e]at this;exact f.1<|eT this.symm,?_⟩;rw[JQ,O5 a d b O,f.2,fp b O,gY];rfl
section
variable{p:Y}
structure u6(p:Y)(f g h a K:V G)(d:Y):Prop where
 Gm:aJ a
 Gl:a.length=g.length
 Gp:(fx a:Fx p)=fx g
 Gr:∀i,0<=a.getD i 0/\a.getD i 0<(p:G)^d
 Km:aJ K
 Kl:K.length=h.length
 Kp:(fx K:Fx p)=fx h
 Kr:∀i,0<=K.getD i 0/\K.getD i 0<(p:G)^d
 pr:Cg ((p:G)^d) (ps f) (ps a*ps K)
def u6.start{f g a}(d:Mon p g)(k:Mon p a)(m:(fx f:Fx p)=fx g*fx a):u6 p f g a g a 1:=by have l:(p:G)^1=p:=Int.pow_one _;refine⟨⟨d.ne,d.one⟩,J,J,λi=>by rw[l];exact d.c.1 i,⟨k.ne,k.one⟩,J,J,λi=>by rw[l];exact k.c.1 i,?_⟩;rw[l];exact mk_eq.1<|show Fx.mk (ps f) (bp.ps p f)=Fx.mk (ps g*ps a) ((bp.ps p g).mul<|bp.ps p a)from m
def aff{f d}{a}(o:0<a)(g:∀i,0<=E f i 0/\E f i 0<a)(k:∀i,0<=E d i 0/\E d i 0<(p:G))(l:Z d<=Z f) i:0<=E (mq f a d) i 0/\E (mq f a d) i 0<a*p:=by rw[O5 f a d l];let ⟨a1,a2⟩:=g i;let ⟨m,s⟩:=k i;have t:0<=a*E d i 0:=jx O m;have n:a*(E d i 0+1)<=a*p:=kK O O;rw[om,ns]at n;omega
def afg{a d}{f}(g:Z d<=Z a)(k:(p:G)∣f):(fx (mq a f d):Fx p)=fx a:=by refine NN<|Cg.of λi=>?_;obtain⟨z,rfl⟩:=k;rw[cH,cH,O5 _ _ _ g,jl,L9]
def aqX(H:br p){g d a t}(f:Mon p g)(m:Mon p d)(W:2<=Z g)(he:bA p a)(hl:Z a+2<=Z g+d.length)(ht:(fx g:Fx p)∣fx t*fx d-1):
  (aS (cT t a p) g p).2.length<Z g/\bA p (aS (cT t a p) g p).2/\
  bA p (aS (aN<|gx a (cT (aS (cT t a p) g p).2 d p) p) g p).1/\(aS (aN<|gx a (cT (aS (cT t a p) g p).2 d p) p) g p).1.length<d.length/\
  (fx a:Fx p)=fx (aS (cT t a p) g p).2*fx d+fx (aS (aN<|gx a (cT (aS (cT t a p) g p).2 d p) p) g p).1*fx g:=by
 have n:=nv H.pos t a
 let ⟨_,_,_,d4,d5,_⟩:=mi H.hp H.le n.1 f.c f.ne
 have K:=NS H n f.c f.ne
 rw[wu]at K
 have o:=d5 n
 generalize (aS (cT t a p) g p).2=dg at*
 have u:(fx (aN<|gx a (cT dg d p) p):Fx p)=fx a-fx dg*fx d:=by rw[TQ,wu]
 have k:bA p (aN<|gx a (cT dg d p) p):=k7 H.pos<|BQ H.pos _ _
 generalize aN (gx a (cT dg d p) p)=s at*
 have X:(fx g:Fx p)∣fx s:=by rw[u];have b:(fx g:Fx p)∣fx dg*fx d-fx t*fx a*fx d:=nA K<|fP _ _;have L:(fx g:Fx p)∣fx a*(fx t*fx d)-fx a*1:=nA (fP _ _) ht;rw[mul_one]at L;have j:(fx g:Fx p)∣fx dg*fx d-fx a:=lT b (by have q:fx t*fx a*fx d=fx a*(fx t*fx d:Fx p):=fG;rw[q];exact L);exact nz j
 have v:=zE H k f.c f.ne X
 let ⟨_,M,_,_,_,y⟩:=mi H.hp H.le k.1 f.c f.ne
 have r:Z s+2<=Z g+d.length:=by
  have A:=IB H.pos (fx a:Fx p)<|fx dg*fx d;rw[<-u,dc k,dc he]at A;have P:sz (fx dg*fx d:Fx p)+2<=Z g+d.length:=by
   have w:=m.pos;by_cases i:dg=[]
   .rw[i,kF,zero_mul,k8 H.pos];omega
   .have z:(fx dg:Fx p)≠0:=λa=>i (uM o (rV H.pos)<|a.trans kF.symm)
    have:=eh H z<|m.kH H;rw[dc o,dc m.c]at this;omega
  omega
 have B:bA p (aS s g p).1:=by
  refine⟨M,?_⟩;by_cases i:s=[]
  .left;refine eT ?_;rw[y,i];simp
  .have D:(fx s:Fx p)≠0:=λa=>i (uM k (rV H.pos)<|a.trans kF.symm)
   let ⟨x,hx,ex⟩:=jr H.pos (fx (aS s g p).1:Fx p);have l:(fx x:Fx p)≠0:=λa=>D (by rw[v,<-ex,a,zero_mul])
   have A:=eh H l<|f.kH H;rw[ex,<-v,dc k,<-ex,dc hx,dc f.c]at A;right;have P:(aS s g p).1.length=Z x:=by rw[y];omega
   have Q:=abS ex<|Z x-1;have T:=M<|Z x-1;have U:=hx.1<|Z x-1;rw[gX T.1 T.2,gX U.1 U.2]at Q;rw[P,<-Q];rcases hx.2 with C|C
   .exact absurd (by rw[C,kF]) l
   .exact C
 refine⟨O,o,B,?_,?_⟩
 .rw[y];have w:=m.pos;by_cases i:Z s<=Z g-1
  .omega
  .omega
 .rw[<-v,u,add_comm,kA]
def u6.step(H:br p){f g s l K o a d}{k}(m:u6 p f g s l K k)(j1:1<=k) t(x:ps f=ps l*ps K+PS.K ((p:G)^k)*t)(P:Cg p (ps o) t)
  (l1:Z a<Z g) (Q:bA p a) (l2:Z d<s.length) (T:bA p d) (U:(fx o:Fx p)=fx a*fx s+fx d*fx g):u6 p f g s (mq l ((p:G)^k) a) (mq K ((p:G)^k) d) (k+1):=by
 have V:=H.hp.1
 have L:(0:G)<(p:G)^k:=nH O
 have n:(p:G)∣(p:G)^k:=by obtain⟨i,rfl⟩:∃i,k=i+1:=⟨k-1,O⟩;rw[fK];exact Cq _ _
 have X:=m.Gl
 have c:=m.Kl
 have r:=aff (p:=p) L m.Gr Q.1 O
 have D:=aff (p:=p) L m.Kr T.1 O
 have E:=VB ((p:G)^k) m.Gm (b:=a) O
 have F:=VB ((p:G)^k) m.Km (b:=d) O
 have M:=afe l ((p:G)^k) a O
 have s2:=afe K ((p:G)^k) d O
 refine⟨E,by rw[JQ,X],by rw[afg O n,m.Gp],λi=>by rw[fK];exact r i,F,by rw[JQ,c],by rw[afg O n,m.Kp],λi=>by rw[fK];exact D i,?_⟩
 rw[fK]
 obtain⟨q,eq⟩:∃q,q=(p:G)^k:=⟨_,J⟩
 rw[<-eq]at x M s2 n⊢
 have u:Cg p t (ps a*ps K+ps d*ps l):=by
  refine P.symm.trans ?_;have v:(fx o:Fx p)=fx a*fx K+fx d*fx l:=by rw[U,m.Kp,m.Gp]
  exact mk_eq.1<|show Fx.mk (ps o) (bp.ps p o)=Fx.mk (ps a*ps K+ps d*ps l) (((bp.ps p a).mul<|bp.ps p K).add<|(bp.ps p d).mul<|bp.ps p l)from v
 rw[M,s2]
 have v:(ps l+PS.K q*ps a)*(ps K+PS.K q*ps d)=ps l*ps K+PS.K q*(ps a*ps K+ps d*ps l)+PS.K q*(PS.K q*(ps a*ps d)):=by simp only[PS.mul_add,PS.add_mul];ac_rfl
 rw[v]
 refine Cg.Sl λi=>?_
 let ⟨z,Y⟩:=u.dvd i
 let ⟨y,N⟩:=n
 rw[x,PS.eV,PS.eV,PS.eV,PS.fa,PS.fa,PS.fa,PS.fa]
 refine⟨z-y*(ps a*ps d) i,?_⟩
 generalize (ps a*ps K+ps d*ps l) i=A at*
 generalize (ps a*ps d) i=B at*
 generalize t i=W at*
 generalize (ps l*ps K) i=C at*
 have R:W=A+p*z:=O
 rw[R,Ey,om]
 have S:q*(q*B)=q*p*(y*B):=by
  conv=>lhs;rw[eX q (q*B)]
  rw[N];ac_rfl
 rw[S,jl q (p:G) z]
 omega
end
def aqY{p}{l a}(d:l.Perm a):iU p l=iU p a:=by
 induction d with
 |nil=>rfl
 |cons x _ f=>rw[iU,iU,f]
 |swap x y l=>rw[iU,iU,iU,iU,<-mul_assoc,<-mul_assoc,mul_comm<|pk (fx y.1) _]
 |trans _ _ g h2=>rw[g,h2]
def CN.perm{p}{g}{l i}(a:CN p g l)(d:i.Perm l):CN p g i:=
 ⟨λx k=>a.parts x<|d.mem_iff.1 k,d.symm.pairwise a.ds (λf e=>f e.symm),(aqY d).trans a.prod⟩
def wJ{p}(H:br p){f a}(g:bA p a)(i:bA p f)(d:f≠[]):bA p (aS a f p).2/\(aS a f p).2.length<Z f/\(fx f:Fx p)∣fx (aS a f p).2-fx a:=by let ⟨d1,d2,d3,d4,d5,d6⟩:=mi H.hp H.le g.1 i d;have k:=bQ.2 d;exact⟨d5 g,O,NS H g i d⟩
def O6{p}(H:br p) f a(n:Y)(lf:Z f<=200)(l:bA p f)(d:f≠[])(M:bA p a)(Q:Z a<=200)(T:n<18446744073709551616):
  r q 251 [I aw a,cU n,I aw f,cU p] (I aw<|iv H f<|pk (fx a) n):=by
 refine aI Tryz.func251 ?_
 have U:=H.hp.1
 have P:=H.le
 have y:bA p [1]:=⟨EV O O,by show can _;exact .inr (D:(1:G)≠0)⟩
 let ⟨q1,W,X⟩:=wJ H y l d
 let ⟨c,w,E⟩:=wJ H M l d
 have u:=te p H.hp H.le [1] f az O y l d
 have v:=te p H.hp H.le a f O O M l d
 refine N J<|F<|rl aw [1] J J (rc J J u<|z J<|bt J J v J<|j<|N J ?_)
 refine au<|a8 (α:=V G×V G×Y) (λx=>⟨[(2,I aw f),(3,cU p),(9,I aw x.1),(10,I aw x.2.1),(11,cU x.2.2)],[],5,[]⟩) (λx=>bA p x.1/\bA p x.2.1/\Z x.1<Z f/\Z x.2.1<Z f/\x.2.2<18446744073709551616/\(fx f:Fx p)∣fx x.1*pk (fx x.2.1) x.2.2-pk (fx a) n) (λx=>x.2.2) ((aS [1] f p).2,(aS a f p).2,n) ⟨q1,c,W,w,T,?_⟩ aM ?_
 .have:=nA X<|I6 E n;rwa[Ch,one_mul]at this
 rintro⟨i,b,m⟩ ⟨u,v,C,lb,hm,hc⟩
 simp only at u v C lb hm hc
 have g:=Vb H (a:=b) (b:=b) l d
 have R:=v5 b b p
 have A:=uz b b p O O O O v.1 v.1
 have B:=te p H.hp H.le (cT b b p) f O O (nv H.pos b b) l d
 refine j<|N J<|al J (λo=>?_)<|λo=>?_
 .have o:0<m:=by have o:(m:G)>0:=aU o;omega
  refine aD<|j<|au<|j<|N J (hp:=aF)<|al J (λs=>?_)<|λs=>?_
  .have s:(m:G).tmod 2=1:=eq_of_beq s;have S:m%2=1:=by rw[show(2:G)=((2:Y):G)from J,mJ]at s;omega
   obtain⟨k,rfl⟩:∃k,m=2*k+1:=⟨m/2,O⟩;have t:=Vb H (a:=i) (b:=b) l d;have Ip:=v5 i b p;have K:=uz i b p O O O O u.1 v.1;have L:=te p H.hp H.le (cT i b p) f O O (nv H.pos i b) l d;refine cu<|rc J J K<|rc J J L<|z J<|aL ?_;refine cu<|rc J J A<|rc J J B<|z J<|bw<|rt J (hp:=aF)<|aT (wI p f i b,wI p f b b,k) ⟨t.1,g.1,t.2.1,g.2.1,by show k<_;omega,?_⟩ (O:k<2*k+1)<|wk ⟨sR J,sR J,sR J,sR J,sE J ?_,h⟩ h
   .show fx f∣fx (wI p f i b)*pk (fx<|wI p f b b) k-pk (fx a) n;refine lT (nA t.2.2<|I6 g.2.2 k) ?_;rw[uF,mul_assoc,<-zu];have e:fx b*pk (fx b) (k+k)=(pk (fx b) (2*k+1):Fx p):=by rw[mul_comm,(O:k+k=2*k)];rfl
    rw[e];exact hc
   .exact bP<|(BK (2*k+1) hm).trans (O:((((2*k+1)/2:Y)):G)=(k:G))
  .have s:(m:G).tmod 2≠1:=nV s;have Jz:m%2=0:=by rw[show(2:G)=((2:Y):G)from J,mJ]at s;omega
   obtain⟨k,rfl⟩:∃k,m=2*k:=⟨m/2,O⟩;refine aD ?_;refine cu<|rc J J A<|rc J J B<|z J<|bw<|rt J (hp:=aF)<|aT (i,wI p f b b,k) ⟨u,g.1,C,g.2.1,by show k<_;omega,?_⟩ (O:k<2*k)<|wk ⟨sR J,sR J,sR J,sR J,sE J ?_,h⟩ h
   .show fx f∣fx i*pk (fx<|wI p f b b) k-pk (fx a) n;refine lT (nA (fP _<|fx i)<|I6 g.2.2 k) ?_;rw[uF,<-zu,(O:k+k=2*k)];exact hc
   .exact bP<|(BK (2*k) hm).trans (O:((((2*k)/2:Y)):G)=(k:G))
 .have o:m=0:=by have o:¬(m:G)>0:=a6 o;omega
  subst o;rw[pk,mul_one]at hc;rw[ap7 H l d u C hc];exact a7<|aL<|N J<|cw J
def yh(a d:V G):V G:=(bX<|max (Z a)<|Z d).map λi=>E a i 0+E d i 0
def afh a d:Z (yh a d)=max (Z a) (Z d):=by simp[yh]
def aqZ a d p(A:Z a<=1000)(B:Z d<=1000)(m:0<p)(H:p<=2147483648)(s:rp p a)(t:rp p d):r q 300 [I aw a,I aw d,cU p] (I aw<|aN<|md p<|yh a d):=by
 refine aI Tryz.func300 ?_;generalize hM:max (Z a) (Z d)=M;have u:=afh a d;have g:∀i,i<M->E (yh a d) i 0=E a i 0+E d i 0:=λi v=>by unfold yh;rw[aK,jh,k6 O];rfl
 have n:∀i,0<=E (yh a d) i 0:=λi=>by
  by_cases f:i<M
  .rw[g i f];have x:=s i;have h2:=t i;omega
  .rw[fp _ O];exact hO _
 rw[hM]at u;generalize yh a d=L at*;refine N J<|F<|fT aw [] J J (z J<|j<|N J ?_);refine au<|a8 (α:=Y) (λi=>⟨[(0,I aw a),(1,I aw d),(2,cU p),(7,.c<|.X 1000000),(8,R i)],[(1000000,.vec 150 aw<|c i L)],3,[]⟩) (λi=>i<=M) (λi=>M-i) 0 (aY _) aM ?_;intro i v;have C:(c i L).length=i:=b8;by_cases k:i<M
 .refine jH ⟨[(0,I aw a),(1,I aw d),(2,cU p),(7,.c<|.X 1000000),(8,R i)],[(1000000,.vec 150 aw<|c i L)],4,[]⟩ ?_ (λl=>F<|rg 14 J J (λf=>z J<|al J (λ_=>cP<|dB l aM)<|λh2=>mM)<|λf=>z J<|al J (λ_=>cP<|dB l aM)<|λh2=>?_)
  .have x:=s i;have h2:=t i;refine j<|au<|cu ?_;refine rc J J (If a i)<|rc J J (If d i) ?_;refine rl aw [_] J J (ra J J J J J J J J J ?_ ?_<|z J ?_)
   .show(_+1+(_+1)/4+192)*8<=_;omega
   .show(_+1)*1<=_;omega
   refine bw<|rt J<|aT (i+1) k xp<|Wk.trans (wk (st':=⟨[(0,I aw a),(1,I aw d),(2,cU p),(7,.c<|.X 4009000),(8,R ((i+1:Y):G))],[(4009000,.vec 150 aw<|c (i+1) L)],8,[]⟩) (bO J) ⟨bE J ?_,h⟩)<|Wk.trans (fU 1000000 4009000 J J J) aM;refine be (aG.vec 150 aw) ?_;rw[rU _ i O,g i k,wrap_u64 _ O O]
  .exfalso;have f:¬(i:G)<(Z a:G):=a6 f;have h2:¬(i:G)<(Z d:G):=a6 h2;omega
 .have o:i=M:=by omega
  subst o;have y:=xE L p O m O n;rw[iY O];refine j<|F<|rg 14 J J (λf=>?_)<|λf=>?_
  .exfalso;have f:(i:G)<(Z a:G):=aU f;omega
  .refine z J (al J (λh2=>?_)<|λh2=>?_)
   .exfalso;have h2:(i:G)<(Z d:G):=aU h2;omega
   .exact a7<|aL<|cY 1000000 J J J<|bt J J y J<|cw J
def afi f(p:Y)(u:Z f<=1000)(a:0<p)(v:p<=2147483648)(n:rp p f):r q 173 [I aw f,cU p] (I aw<|aN<|jM p f):=by
 refine aI Tryz.func173 ?_;have x:=JH p f;have g:=λi(k:i<Z f-1)=>Ve p f k
 have l:=xE (jM p f) p O O O<|λi=>(JI a f i).1;rw[Ih (JI a f)]at l;generalize jM p f=L at*;refine N J<|F<|fT aw [] J J (z J<|j<|N J ?_);refine au<|a8 (α:=Y) (λi=>⟨[(0,I aw f),(1,cU p),(5,.c<|.X 1000000),(6,R ((i+1:Y):G))],[(1000000,.vec 150 aw<|c i L)],3,[]⟩) (λi=>i<=Z f-1) (λi=>Z f-i) 0 (aY _) aM ?_;intro i k;have y:(c i L).length=i:=b8;refine j<|N J<|al J (λd=>?_)<|λd=>?_
 .have d:i+1<Z f:=by have d:((i+1:Y):G)<(Z f:G):=aU d;omega
  have o:af (((i+1:Y):G))=i+1:=bY _;have s:=n<|i+1;refine aD<|j<|au<|cu ?_;refine rl aw [_] J J (ra J J J J J J J J J ?_ ?_<|z J ?_) (hp:=aF)
  .show(_+1+(_+1)/4+192)*8<=_;omega
  .show(_+1)*1<=_;omega
  refine bw<|rt J<|aT (i+1) O (O:Z f-(i+1)<Z f-i)<|Wk.trans (wk (st':=⟨[(0,I aw f),(1,cU p),(5,.c<|.X 4013000),(6,R ((i+1+1:Y):G))],[(4013000,.vec 150 aw<|c (i+1) L)],8,[]⟩) (bO J) ⟨bE J ?_,h⟩)<|Wk.trans (fU 1000000 4013000 J J J) aM;refine be (aG.vec 150 aw) ?_;have t:(ay .u64 ((i+1:Y):G)).tmod p=(((i+1)%p:Y):G):=by rw[wrap_u64 _ O O,mJ]
  have A:(((i+1)%p:Y):G)<p:=by have:=fS (i+1) a;omega
  have m:0<=E f (i+1) 0*(((i+1)%p:Y):G):=jx s.1 O;have B:E f (i+1) 0*(((i+1)%p:Y):G)<=2147483648*2147483648:=wT O O O O;have e:(ay .u64<|E f (af ((i+1:Y):G)) aw.dE*(ay .u64 ((i+1:Y):G)).tmod p).tmod p=E L i 0:=by rw[t,o,g i O];show(ay .u64<|E f (i+1) 0*(((i+1)%p:Y):G)).tmod p=_;rw[wrap_u64 _ m O,me m,eX]
  rw[e,rU _ i O]
 .have d:¬((i+1:Y):G)<(Z f:G):=a6 d;rw[iY O];exact a7<|aL<|cY 1000000 J J J<|bt J J l J<|cw J
def kf(p:Y):Y->Y->V G
 |0,_=>[]
 |s+1,n=>if n=0 then[]else((n%p:Y):G)::kf p s (n/p)
def O7 p s:kf p s 0=[]:=by cases s<;>rfl
def VC{p:Y}(f:2<=p):∀s n,n<2^s->bA p (kf p s n)/\Z (kf p s n)<=s
 |0,n,_=>⟨rV O,aO _⟩
 |s+1,n,g=>by
  rw[kf];split
  .exact⟨rV O,aY _⟩
  .rename_i k;have a:n/p<2^s:=by have d:n/p<=n/2:=aq0 f D;rw[fO]at g;omega
   let ⟨⟨i1,i2⟩,i3⟩:=VC f s (n/p) a;refine⟨⟨λi=>?_,?_⟩,b8⟩
   .cases i with
    |zero=>
     have:=fS n (O:0<p)
     show 0<=((n%p:Y):G)/\((n%p:Y):G)<p
     omega
    |succ i=>exact i1 i
   .right;by_cases d:n/p=0
    .rw[d,O7];have:n<p:=by rwa[Nat.div_eq_zero_iff_lt O]at d
     show((n%p:Y):G)≠0;rw[o6 this];omega
    .rcases i2 with i2|i2
     .exfalso;have:kf p s (n/p)≠[]:=by
       cases s with
       |zero=>exact absurd a (by rw[po];have:=rM d;omega)
       |succ s=>rw[kf,w d];simp
      exact this i2
     .rw[ik,eK];generalize kf p s (n/p)=l at*;cases l with
      |nil=>exact absurd J i2
      |cons c l=>exact i2
def lW(p:Y):V G->Y
 |[]=>0
 |a::l=>af a+p*lW p l
def afj{p:Y}(n:0<p):∀(s:Y)(a:V G),Z a<=s->bA p a->kf p s (lW p a)=a
 |s,[],_,_=>O7 p s
 |0,f::a,k,_=>by simp at k
 |s+1,f::a,k,g=>by
  have u:0<=f/\f<p:=g.1 0;have o:bA p a/\(a=[]->f≠0):=by
   refine⟨⟨λi=>g.1<|i+1,?_⟩,λe=>?_⟩
   .rcases g.2 with e|e
    .cases e
    .cases a with
     |nil=>exact .inl J
     |cons d a=>exact .inr e
   .subst e;rcases g.2 with e|e
    .cases e
    .exact e
  have l:=afj n s a (by simp at k;omega) o.1;have t:lW p (f::a)%p=af f:=by rw[lW,Nat.add_mul_mod_self_left,o6 O]
  have m:lW p (f::a)/p=lW p a:=by rw[lW,Nat.add_mul_div_left _ _ n,BA O,ff]
  have v:lW p (f::a)≠0:=λe=>by rw[e,Nat.zero_div]at m;rw[e,Nat.zero_mod]at t;rw[<-m,O7]at l;exact o.2 l.symm O
  rw[kf,w v,t,m,l,vN u.1]
def afk{p:Y}:∀a:V G,(∀i,0<=E a i 0/\E a i 0<(p:G))->lW p a<p^Z a
 |[],_=>by simp[lW]
 |d::a,f=>by
  have l:0<=d/\d<p:=f 0;have g:=afk a λi=>f<|i+1
  have k:=fN p (show lW p a+1<=p^Z a from g);rw[lW,ik,fO,gG<|p^_];rw[vY]at k;omega
def afl{p:Y}(f:G):∀a:V G,lW p (a++[f])=lW p a+p^Z a*af f
 |[]=>by simp[lW]
 |d::a=>by rw[m7,lW,afl f a,lW,ik,fO,vY];have:p*(p^Z a*af f)=p^Z a*p*af f:=fG;omega
def aq1{p}{a}(d:Mon p a):p^(Z a-1)<=lW p a/\lW p a<2*p^(Z a-1):=by
 obtain⟨f,rfl⟩:∃f,a=f++[1]:=⟨a.dropLast,by
  have e:=Vz d.ne;have g:a.getLast d.ne=1:=by have:=d.one;have k:=d.pos;rw[aK,cO O]at this;rw[aqV];exact this
  rw[g]at e;exact e.symm⟩
 have l:=afk (p:=p) f λi=>by
  by_cases h:i<Z f
  .have:=d.c.1 i;rwa[aK,DF h,<-aK]at this
  .rw[fp _ O];have:=d.c.1 0;omega
 rw[afl,iq,s3,eK];have:af (1:G)=1:=rfl;rw[this,qB];omega
def aq2(p n:Y)(g:2<=p)(i:p<=2147483648)(s:n<18446744073709551616):r q 286 [cU n,cU p] (I aw<|kf p 64 n):=by
 refine aI Tryz.func286 ?_;refine N J<|F<|fT aw [] J J (z J<|j<|N J ?_);refine au<|a8 (α:=V G×Y) (λx=>⟨[(1,cU p),(5,.c<|.X 1000000),(6,cU x.2)],[(1000000,.vec 150 aw x.1)],3,[]⟩) (λx=>Z x.1<=64/\x.2<2^(64-Z x.1)/\kf p 64 n=x.1++kf p (64-Z x.1) x.2) (λx=>x.2) ([],n) ⟨aY _,s,J⟩ aM ?_;rintro⟨o,m⟩ ⟨t,h2,d⟩;simp only at t h2 d;have v:m<18446744073709551616:=iI h2<|eQ (n:=2) D (O:64-Z o<=64);refine j<|N J<|al J (λa=>?_)<|λa=>?_
 .have a:0<m:=by have a:(m:G)>0:=aU a;omega
  have y:Z o<64:=by
   rcases qf (Z o) 64 with e|e
   .exact e
   .rw[(O:64-Z o=0)]at h2;omega
  obtain⟨k,l⟩:∃k,64-Z o=k+1:=⟨63-Z o,O⟩;have f:m/p<m:=Nat.div_lt_self a g;refine aD<|j<|au<|cu ?_;refine rl aw [_] J J (ra J J J J J J J J J ?_ ?_<|z J ?_) (hp:=aF)
  .show(Z o+1+(Z o+1)/4+192)*8<=_;omega
  .show(Z o+1)*1<=_;omega
  refine bw<|rt J (aT (o++[((m%p:Y):G)],m/p) ⟨b8,?_,?_⟩ f<|Wk.trans (wk (st':=⟨[(1,cU p),(5,.c<|.X 4005000),(6,cU ((m/p:Y):G))],[(4005000,.vec 150 aw<|o++[((m%p:Y):G)])],8,[]⟩) ⟨sR J,sR J,sE J ?_,h⟩ ⟨bE J ?_,h⟩)<|Wk.trans (fU 1000000 4005000 J J J) aM) (hp:=aF)
  .simp only[iq,s3];rw[l,fO]at h2;rw[(O:64-(Z o+1)=k)];have A:m/p<=m/2:=aq0 g D;omega
  .simp only[iq,s3];rw[d,l,kf,w O,(O:64-(Z o+1)=k),l7];rfl
  .refine bP (show ay .u64 ((m:G).tdiv p)=((m/p:Y):G)from ?_);have u:(0:G)<=((m/p:Y):G):=qR _;rw[<-Int.ofNat_tdiv,wrap_u64 _ u O]
  .show aG.vec 150 aw (o++[(m:G).tmod p])=_;rw[mJ]
 .have a:m=0:=by have a:¬(m:G)>0:=a6 a;omega
  subst a;rw[O7,iD]at d;rw[d];exact a7<|aL<|cY 1000000 J J J<|N J<|cw J
section
variable{p:Y}(H:br p)
noncomputable def pX(f:V G):Y->V G×V G->V G×V G
 |0,x=>x
 |k+1,x=>let y:=pX f k x;let w:=iv H f<|pk (fx y.2) 2;(aN<|md p<|yh y.1 w,w)
noncomputable def jN(f:V G):Y->V G×V G->V G×V G
 |0,x=>x
 |k+1,x=>let y:=jN f k x;let w:=iv H f<|pk (fx y.2) p;(wI p f y.1 w,w)
noncomputable def At(t f:V G)(d:Y):V G:=
 let r:=(aS t f p).2
 if p=2 then(pX H f (d-1) (r,r)).1 else aN (gx (iv H f<|pk (fx (jN H f (d-1) (r,r)).1)<|(p-1)/2) [1] p)
variable{f:V G}(hf:bA p f)(jC:f≠[])
include hf jC
def VD{x:V G×V G}(a:bA p x.1)(d:bA p x.2)(g:Z x.1<Z f)(i:Z x.2<Z f):∀k,bA p (pX H f k x).1/\bA p (pX H f k x).2/\(pX H f k x).1.length<Z f/\(pX H f k x).2.length<Z f
 |0=>⟨a,d,g,i⟩
 |k+1=>by let ⟨i1,i2,i3,i4⟩:=VD a d g i k;let ⟨m1,l,_⟩:=yc H hf jC<|pk (fx (pX H f k x).2) 2;have m:=py<|md p<|yh (pX H f k x).1<|iv H f<|pk (fx (pX H f k x).2) 2;rw[xD,afh]at m;exact⟨k7 H.pos<|BP H.pos _,m1,by show Z (aN _)<_;omega,l⟩
def aq3{x:V G×V G}(d:bA p x.1)(g:bA p x.2)(i:Z x.1<Z f)(l:Z x.2<Z f):∀k,bA p (jN H f k x).1/\bA p (jN H f k x).2/\(jN H f k x).1.length<Z f/\(jN H f k x).2.length<Z f
 |0=>⟨d,g,i,l⟩
 |k+1=>by let ⟨m1,m,_⟩:=yc H hf jC<|pk (fx (jN H f k x).2) p;let ⟨n,o,_⟩:=Vb H (a:=(jN H f k x).1) (b:=iv H f<|pk (fx (jN H f k x).2) p) hf jC;exact⟨n,m1,o,m⟩
def afm{t:V G}(i:bA p t)(d:Y):bA p (At H t f d)/\Z (At H t f d)<=Z f:=by
 let ⟨r1,a,_⟩:=wJ H i hf jC;unfold At;split
 .let ⟨i1,_,i3,_⟩:=VD H hf jC (x:=((aS t f p).2,(aS t f p).2)) r1 r1 a a<|d-1;exact⟨i1,yv i3⟩
 .have g:=py<|gx (iv H f<|pk (fx (jN H f (d-1) ((aS t f p).2,(aS t f p).2)).1)<|(p-1)/2) [1] p;have k:=(yc H hf jC<|pk (fx (jN H f (d-1) ((aS t f p).2,(aS t f p).2)).1)<|(p-1)/2).2.1;rw[MQ,s3]at g;exact⟨k7 H.pos<|BQ H.pos _ _,bm g O⟩
def aq4{t:V G}(A:bA p t)(lt:Z t<=200)(o:Z f<=200)(d:Y)(d1:1<=d)(d2:d<=1000):r q 287 [I aw t,R d,I aw f,cU p] (I aw<|At H t f d):=by
 refine aI Tryz.func287 ?_;have L:=H.hp.1;have B:=H.le;have M:=bQ.2 jC;let ⟨r1,n,_⟩:=wJ H A hf jC;have C:=te p H.hp H.le t f O O A hf jC;obtain⟨k,rfl⟩:∃k,d=k+1:=⟨d-1,O⟩;unfold At;rw[eK];have P:=λk=>VD H hf jC (x:=((aS t f p).2,(aS t f p).2)) r1 r1 n n k
 have Q:=λk=>aq3 H hf jC (x:=((aS t f p).2,(aS t f p).2)) r1 r1 n n k
 generalize (aS t f p).2=a at*;refine N J<|j<|N J<|al J (λh=>?_)<|λh=>aD ?_
 .have h:(p:G)=2:=eq_of_beq h;rw[b O];refine bt J J C J<|N J<|j<|N J ?_;refine au<|a8 (α:=Y) (λi=>⟨[(1,R ((k+1:Y):G)),(2,I aw f),(3,cU p),(9,I aw (pX H f i (a,a)).1),(10,I aw (pX H f i (a,a)).2),(11,R ((i+1:Y):G))],[],6,[]⟩) (λi=>i<=k) (λi=>k-i) 0 (aY _) aM ?_;intro i T;let ⟨l,m,U,W⟩:=P i;refine j (N J<|al J (λh=>?_)<|λh=>?_)
  .have h:((i+1:Y):G)<((k+1:Y):G):=aU h;have g:=O6 H f (pX H f i (a,a)).2 2 o hf jC m O D;let ⟨m1,K,_⟩:=yc H hf jC<|pk (fx (pX H f i (a,a)).2) 2;have s:=aqZ (pX H f i (a,a)).1 (iv H f<|pk (fx (pX H f i (a,a)).2) 2) p O O H.pos O l.1 m1.1;refine aD<|j<|au<|bt J J g J<|cu<|rc J J s<|z J<|bw<|rt J (hp:=aF)<|aT (i+1) O M6 aM
  .have h:¬((i+1:Y):G)<((k+1:Y):G):=a6 h;have e:i=k:=O;subst e;exact a7<|aL<|N J<|bL<|cK<|atR J
 .have h:(p:G)≠2:=nV h;rw[w O];refine bt J J C J<|N J<|j<|N J ?_;refine au<|a8 (α:=Y) (λi=>⟨[(1,R ((k+1:Y):G)),(2,I aw f),(3,cU p),(12,I aw (jN H f i (a,a)).1),(13,I aw (jN H f i (a,a)).2),(14,R ((i+1:Y):G))],[],6,[]⟩) (λi=>i<=k) (λi=>k-i) 0 (aY _) aM ?_;intro i T;let ⟨l,m,U,W⟩:=Q i;refine j (N J<|al J (λh=>?_)<|λh=>?_)
  .have h:((i+1:Y):G)<((k+1:Y):G):=aU h;have g:=O6 H f (jN H f i (a,a)).2 p o hf jC m O O;let ⟨m1,K,_⟩:=yc H hf jC<|pk (fx (jN H f i (a,a)).2) p;have u:=uz (jN H f i (a,a)).1 (iv H f<|pk (fx (jN H f i (a,a)).2) p) p O O O O l.1 m1.1;have X:=v5 (jN H f i (a,a)).1 (iv H f<|pk (fx (jN H f i (a,a)).2) p) p;have v:=te p H.hp H.le (cT (jN H f i (a,a)).1 (iv H f<|pk (fx (jN H f i (a,a)).2) p) p) f O O (nv H.pos _ _) hf jC;refine aD<|j<|au<|bt J J g J<|cu<|rc J J u<|rc J J v<|z J<|bw<|rt J (hp:=aF)<|aT (i+1) O M6 aM
  .have h:¬((i+1:Y):G)<((k+1:Y):G):=a6 h;have e:i=k:=O;subst e;have m:ay .u64 ((ay .u64<|(p:G)-1).tdiv 2)=(((p-1)/2:Y):G):=by have l:ay .u64 ((p:G)-1)=(p:G)-1:=wrap_u64 _ O O;rw[l,(O:(p:G)-1=((p-1:Y):G))];exact BK (p-1) O
   have g:r q 251 [I aw (jN H f i (a,a)).1,cU<|ay .u64<|(ay .u64<|(p:G)-1).tdiv 2,I aw f,cU p] (I aw<|iv H f<|pk (fx (jN H f i (a,a)).1)<|(p-1)/2):=by rw[m];exact O6 H f _ _ o hf jC l O O
   let ⟨m1,K,_⟩:=yc H hf jC<|pk (fx (jN H f i (a,a)).1)<|(p-1)/2;have y:=Ii (iv H f<|pk (fx (jN H f i (a,a)).1)<|(p-1)/2) [1] p O az O O m1.1 (EV O O);refine a7<|aL ?_;exact F<|rc J J g<|rl aw [1] J J (rc J J y<|z J<|cw J)
end
section
variable{p:Y}(H:br p)
noncomputable def gE(f:V G)(d n:Y):V G:=
 let g:=gy p f (aS (kf p 64 n) f p).2
 if Z g=1\/Z g=Z f then gy p f (At H (kf p 64 n) f d)else g
variable{f:V G}{d:Y}
def afn(a:Mon p f){n:Y}(g:n<18446744073709551616):Mon p (gE H f d n)/\(fx (gE H f d n):Fx p)∣fx f:=by
 let ⟨t1,t2⟩:=VC H.hp.1 64 n g;let ⟨r1,m,_⟩:=wJ H t1 a.c a.ne;let ⟨m1,i,_⟩:=zY H a.c r1 a.ne;let ⟨k,l,_⟩:=zY H a.c (afm H a.c a.ne t1 d).1 a.ne;unfold gE;dsimp only;split
 .exact⟨k,l⟩
 .exact⟨m1,i⟩
def aq5(a:sn p f d)(o:1<=d)(L:2*p^d<=18446744073709551616)(M:d+1<Z f):∃n,(p<=n/\n<18446744073709551616/\1<Z (gE H f d n)/\Z (gE H f d n)<Z f)/\∀k,k<n->¬(p<=k/\k<18446744073709551616/\1<Z (gE H f d k)/\Z (gE H f d k)<Z f):=by
 refine Vy ?_;let ⟨q,q1,K,s,t⟩:=a.ex H O;let ⟨v1,v2⟩:=aq1 q1;rw[t,eK]at v1 v2;have g:=H.hp.1;have u:p<=p^d:=by have:=eQ (O:0<p) o;rwa[Nat.pow_one]at this
 have m:d<64:=by
  have P:2^d<=p^d:=zR g d;rcases qf d 64 with e|e
  .exact e
  .have Q:2^64<=2^d:=eQ D e;omega
 have i:=afj (p:=p) O 64 q O q1.c;have l:(aS q f p).2=q:=by unfold aS;rw[b O]
 let ⟨m1,T,v,U,V,x⟩:=zY H a.aJ.c q1.c a.aJ.ne;have y:Z (gy p f q)=d+1:=by
  have A:(fx q:Fx p)∣fx (gy p f q):=by rw[x];exact dvd_add (dw s U)<|dvd_mul_left _ _
  have B:=jJ H A<|m1.kH H;have C:=jJ H v<|q1.kH H;rw[dc m1.c,dc q1.c]at B C;omega
 have e:gE H f d (lW p q)=gy p f q:=by unfold gE;rw[i,l,w O]
 exact⟨lW p q,O,O,by rw[e];omega,by rw[e];omega⟩
include H in
def VE(x:1<=d)(T:d<=1000)(U:2*p^d<=18446744073709551616):∀(Q:Y)(f:V G),Z f<Q->Z f<=200->sn p f d->2<=Z f->∃l,uZ p f l/\Z l+1<=Z f/\ox q 253 [I aw f,R d,cU p] 167 (.sl aw) l
 |0,_,h,_,_,_=>by omega
 |Q+1,f,hN,lf,h,h2=>by
  have y:=H.hp.1;have A:=H.le;by_cases W:Z f<=d+1
  .refine⟨[f],⟨λg X=>?_,by rw[iw,iw,mul_one]⟩,b8,?_⟩
   .have e:=iK.1 X;subst e;exact⟨h.aJ,h2,h.fI H h2 W x⟩
   .refine HG Tryz.func253 J J J J D ?_;refine N J (j<|N J<|al J (λh=>?_)<|λh=>?_)
    .exact F<|fT (.sl aw) [f] J J (z J<|bL<|cK<|HE (id:=2001000) cv J J)
    .exfalso;have h:¬(Z f:G)-1<=(d:G):=a6 h;omega
  .let ⟨i,⟨n1,n2,n3,n4⟩,B⟩:=aq5 H h x U O;let ⟨S,g2⟩:=afn H (d:=d) h.aJ n2;let ⟨a1,a2⟩:=h.parts H S g2;let ⟨q1,q2,q3,q4⟩:=tC H h.aJ S g2;let ⟨l1,o1,m1,k1⟩:=VE x T U Q _ O O a1 O;let ⟨l2,o2,m2,k2⟩:=VE x T U Q _ O O a2 O;refine⟨l1++l2,o1.app o2 q2,by rw[iq];omega,?_⟩;refine HG Tryz.func253 J J J J D ?_;refine N J (j<|N J<|al J (λr=>?_)<|λr=>aD ?_)
   .exfalso;have r:(Z f:G)-1<=(d:G):=aU r;omega
   refine N J<|au<|a8 (α:=Y) (λn=>⟨[(0,I aw f),(1,R d),(2,cU p),(7,cU n)],[],4,[]⟩) (λn=>p<=n/\n<=i) (λn=>i-n) p ⟨aO _,n1⟩ aM ?_;rintro n ⟨b1,b2⟩;let ⟨t1,t2⟩:=VC y 64 n (by omega:n<18446744073709551616);let ⟨r1,r2,_⟩:=wJ H t1 h.aJ.c h.aJ.ne;have C:=aq2 p n y A O;have K:=te p H.hp H.le (kf p 64 n) f O O t1 h.aJ.c h.aJ.ne;have L:=EX p H.hp H.le f (aS (kf p 64 n) f p).2 O O h.aJ.c r1;let ⟨s1,s2⟩:=afm H h.aJ.c h.aJ.ne t1 d;have m:=aq4 H h.aJ.c h.aJ.ne t1 O lf d x T;have k:=EX p H.hp H.le f (At H (kf p 64 n) f d) O O h.aJ.c s1;have u:gE H f d n=if Z (gy p f (aS (kf p 64 n) f p).2)=1\/Z (gy p f (aS (kf p 64 n) f p).2)=Z f then gy p f (At H (kf p 64 n) f d)else gy p f (aS (kf p 64 n) f p).2:=rfl
   generalize gy p f (aS (kf p 64 n) f p).2=g at*;refine j<|au<|bt J J C J<|F<|rc J J K<|rc J J L<|z J ?_;refine jH ⟨[(0,I aw f),(1,R d),(2,cU p),(7,cU n),(9,I aw<|gE H f d n)],[],9,[]⟩ ?_<|λs=>F<|rg 33 J J (λM=>?_)<|λM=>?_
   .let ⟨c1,c2⟩:=afn H (d:=d) h.aJ (O:n<18446744073709551616);have cl:=(tC H h.aJ c1 c2).2.2.2;have next:¬(1<Z (gE H f d n)/\Z (gE H f d n)<Z f)->n+1<=i:=λt=>by
     rcases qf n i with e|e
     .exact e
     .have E:n=i:=by omega
      rw[E]at t;exact absurd ⟨n3,n4⟩ t
    have yes:1<Z (gE H f d n)/\Z (gE H f d n)<Z f->n=i:=λt=>by
     rcases qf n i with e|e
     .exact absurd ⟨b1,O,t.1,t.2⟩<|B n e
     .omega
    generalize X:gE H f d n=v at*;refine F<|rg 51 J J (λa=>z J<|al J (λo=>?_)<|λo=>cP<|bw ?_)<|λa=>z J<|al J (λo=>by cases o)<|λo=>cP<|bw ?_
    .have a:(Z v:G)>1:=aU a;have o:(Z v:G)<(Z f:G):=aU o;have E:=yes ⟨O,O⟩;subst E;rw[X]at k1 k2;have P:=zo p H.hp H.le f v O O h.aJ.c c1.c c1.ne;rw[v3 (TU H h.aJ c1 cl).c.2]at P;refine F (Bq J J k1<|rc J J P<|rc J J k2.fs<|ra J J J J J J J J J ?_ ?_<|z J<|bL<|kX<|cK<|lI<|kX<|HE (id:=10012000) cv J J)
     .show(_+_+(_+_)/4+192)*24<=_;omega
     .show(_+_)*1<=_;omega
    .have a:(Z v:G)>1:=aU a;have o:¬(Z v:G)<(Z f:G):=a6 o;refine rt J (hp:=aF)<|aT (n+1) ⟨O,next λt=>O⟩ (O:i-(n+1)<i-n)<|wk ⟨sR J,sR J,sR J,sE J ?_,aX⟩ aX;exact bP<|wrap_u64 _ O O
    .have a:¬(Z v:G)>1:=a6 a;refine rt J (hp:=aF)<|aT (n+1) ⟨O,next λt=>O⟩ (O:i-(n+1)<i-n)<|wk ⟨sR J,sR J,sR J,sE J ?_,aX⟩ aX;exact bP<|wrap_u64 _ O O
   .have M:(Z g:G)=1:=eq_of_beq M;rw[b O]at u;refine z J<|al J (λ_=>cu<|rc J J m<|rc J J k<|z J<|dB s<|wk ⟨sR J,sR J,sR J,sR J,sE J ?_,aX⟩ aX)<|λh=>fE;rw[u]
   .have M:(Z g:G)≠1:=nV M;refine z J (al J (λa=>?_)<|λa=>?_)
    .have a:(Z g:G)=(Z f:G):=eq_of_beq a;rw[b O]at u;refine cu<|rc J J m<|rc J J k<|z J<|dB s<|wk ⟨sR J,sR J,sR J,sR J,sE J ?_,aX⟩ aX;rw[u]
    .have a:(Z g:G)≠(Z f:G):=nV a;rw[w O]at u;refine cP<|dB s<|wk ⟨sR J,sR J,sR J,sR J,sE J ?_,aX⟩ aX;rw[u]
end
section
variable{p:Y}(H:br p)
open Classical in
noncomputable def pY(p:Y)(f:V G)(d:Y):V (V G):=if h:∃l,uZ p f l/\Z l+1<=Z f/\ox q 253 [I aw f,R d,cU p] 167 (.sl aw) l then Classical.choose h else[]
include H in
def afo{f:V G}{d:Y}(g:1<=d)(i:d<=1000)(k:2*p^d<=18446744073709551616)(l:Z f<=200)(m:sn p f d)(n:2<=Z f):uZ p f (pY p f d)/\Z (pY p f d)+1<=Z f/\ox q 253 [I aw f,R d,cU p] 167 (.sl aw) (pY p f d):=by have a:=VE H g i k _ f (dK _) l m n;unfold pY;rw[dif_pos a];exact wb a
structure m0 where
 f:V G
 h:V G
 d:Y
 o:V (V G)
noncomputable def m0.w(x:m0):V G:=iv H x.f<|pk (fx x.h) p
noncomputable def m0.g(x:m0):V G:=gy p x.f<|aN<|gx (x.w H) [0,1] p
noncomputable def m0.q(x:m0):V G:=(aS x.f (x.g H) p).1
noncomputable def m0.next(x:m0):m0:=
 if 1<(x.g H).length then⟨x.q H,if 1<Z (x.q H)then(aS (x.w H) (x.q H) p).2 else x.w H,x.d+1,x.o++pY p (x.g H) x.d⟩else⟨x.f,x.w H,x.d+1,x.o⟩
noncomputable def yi:Y->m0->V (V G)
 |0,x=>x.o
 |a+1,x=>if Z x.f<=1 then x.o else if Z x.f<=2*x.d then x.o++[x.f]else yi a (x.next H)
structure oe(p:Y)(a:V G)(x:m0):Prop where
 dg:CQ p x.f x.d
 d1:1<=x.d
 hc:bA p x.h
 hl:x.h.length<=200
 hx:(fx x.f:Fx p)∣fx x.h-pk X (p^(x.d-1))
 pt:∀g∈x.o,Mon p g/\2<=g.length/\bq (fx g:Fx p)
 pr:(fx a:Fx p)=iw p x.o*fx x.f
 fl:x.f.length<=a.length
 F2:a.length<=200
 Fm:Mon p a
def afp(H:br p):bA p [0,1]:=⟨λi=>match i with
  |0=>⟨hO _,H.pos⟩
  |1=>by have:=H.hp.1;show 0<=(1:G)/\(1:G)<p;omega
  |i+2=>⟨hO _,H.pos⟩,.inr (D:(1:G)≠0)⟩
def afq:(fx [0,1]:Fx p)=X:=by rw[I7,pq,zero_add,Ch,mul_one]
include H in
def oe.start{a:V G}(f:Mon p a)(i:qU (fx a:Fx p))(d:Z a<=200):oe p a ⟨a,[0,1],1,[]⟩ where
 dg:=⟨f,i,λQ k _=>k.1⟩
 d1:=aO _
 hc:=afp H
 hl:=az
 hx:=by rw[afq,lH,po,r6];exact fP _ _
 pt:=λg l=>by cases l
 pr:=by rw[iw,one_mul]
 fl:=aO _
 F2:=d
 Fm:=f
variable{F:V G}{x:m0}
include H in
def oe.ol(a:oe p F x):Z x.o+Z x.f<=Z F:=by
 let ⟨i,h2⟩:=Vc H (l:=x.o) λg d=>⟨(a.pt g d).1,(a.pt g d).2.1⟩
 have:=eh H i<|a.dg.aJ.kH H;rw[<-a.pr,dc a.Fm.c,dc a.dg.aJ.c]at this;omega
def oe.w(a:oe p F x):bA p (x.w H)/\(x.w H).length<Z x.f/\(fx x.f:Fx p)∣fx (x.w H)-pk X (p^x.d):=by let ⟨m1,i,l⟩:=yc H a.dg.aJ.c a.dg.aJ.ne<|pk (fx x.h) p;refine⟨m1,i,lT l ?_⟩;have h:=I6 a.hx p;obtain⟨k,g⟩:∃k,x.d=k+1:=⟨x.d-1,by have:=a.d1;omega⟩;rw[<-uE,g,eK,<-fO]at h;rw[g];exact h
def oe.g(a:oe p F x):sn p (x.g H) x.d/\CQ p (x.q H) (x.d+1)/\(fx (x.g H):Fx p)∣fx x.f:=by let ⟨k,l,i⟩:=a.w H;refine a.dg.step H a.d1 (k7 H.pos<|BQ H.pos _ _) i ?_;rw[TQ,afq]
def oe.next(a:oe p F x)(U:¬Z x.f<=2*x.d)(n:2*p^x.d<=18446744073709551616):oe p F (x.next H)/\(x.next H).d=x.d+1:=by
 obtain⟨k,W,y⟩:=a.w H;obtain⟨l,i,K⟩:=a.g H;have A:=a.F2;have b:=a.fl;obtain⟨q1,q2,L,h⟩:=tC H a.dg.aJ l.aJ K;have j:=l.aJ.pos;unfold m0.next;split
 .rename_i B;obtain⟨C,r,z⟩:=afo H a.d1 O n O l B;have s:(fx F:Fx p)=iw p (x.o++pY p (x.g H) x.d)*fx (x.q H):=by rw[JG,C.prod,a.pr,q2,mul_assoc,mul_comm<|fx<|x.g H];rfl
  have t:∀g∈x.o++pY p (x.g H) x.d,Mon p g/\2<=Z g/\bq (fx g:Fx p):=λg M=>(bg.1 M).elim (a.pt g)<|C.parts g
  have P:Z (x.q H)+(x.g H).length=Z x.f+1:=L;have m:(fx (x.q H):Fx p)∣fx (x.w H)-pk X (p^x.d):=dvd_trans OX y;refine⟨⟨i,O8<|aY _,?_,?_,?_,t,s,by show Z (x.q H)<=_;omega,A,a.Fm⟩,J⟩
  .dsimp only;split
   .exact(wJ H k i.aJ.c i.aJ.ne).1
   .exact k
  .dsimp only;split
   .have:=(wJ H k i.aJ.c i.aJ.ne).2.1;omega
   .omega
  .dsimp only;rw[eK];split
   .exact lT (wJ H k i.aJ.c i.aJ.ne).2.2 m
   .exact m
 .rename_i B;have u:(x.g H).length=1:=O;have T:sz (fx (x.g H):Fx p)=1:=by rw[dc l.aJ.c,u]
  refine⟨⟨⟨a.dg.aJ,a.dg.lV,λQ v n=>i.low Q v ?_⟩,O8<|aY _,k,by show(x.w H).length<=_;omega,?_,a.pt,a.pr,a.fl,A,a.Fm⟩,J⟩
  .rw[show(fx x.f:Fx p)=fx (x.q H)*fx (x.g H)from q2]at n;rcases v.nZ H n with e|e
   .exact e
   .have:=jJ H e<|l.aJ.kH H;have:=v.1;omega
  .show(fx x.f:Fx p)∣fx (x.w H)-pk X (p^(x.d+1-1));rw[eK];exact y
def afr(s:∀d,2*d<Z F->2*p^d<=18446744073709551616):∀(k:Y)(x:m0),oe p F x->Z x.f<x.d+k->uZ p F (yi H k x)
 |k,x,a,P=>by
  have i:Z x.f<=1->uZ p F x.o:=λl=>by
   refine⟨a.pt,?_⟩;have t:=a.dg.aJ;have m:=t.one;have v:=t.pos;have y:(fx x.f:Fx p)=1:=by
    rw[<-Ch];congr 1;generalize x.f=A at*;match A,l,v,m with
    |[c],_,_,m=>rw[show c=1 from m]
   rw[a.pr,y,mul_one]
  cases k with
  |zero=>
   refine i<|eZ λl=>?_
   let ⟨Q,q1,u⟩:=tk H _ (fx x.f:Fx p) (dK _) (by rw[dc a.dg.aJ.c];omega)
   have T:=a.dg.low Q q1 u
   have B:=jJ H u<|a.dg.aJ.kH H
   rw[dc a.dg.aJ.c]at B
   omega
  |succ k=>
   rw[yi]
   split
   .rename_i l;exact i l
   .rename_i l;split
    .rename_i n;refine⟨λg C=>?_,?_⟩
     .rcases bg.1 C with e|e
      .exact a.pt g e
      .rw[iK.1 e];exact⟨a.dg.aJ,O,a.dg.fI H O n⟩
     .rw[JG,a.pr];show _*(_*_)=_;rw[iw,mul_one]
    .rename_i n;have U:=a.fl;let ⟨K,W⟩:=a.next H n<|s _ O;refine afr s k _ K ?_;have X:(x.next H).f.length<=Z x.f:=by
      unfold m0.next;split
      .let ⟨L,_,M⟩:=a.g H;have:Z (x.q H)+(x.g H).length=Z x.f+1:=(tC H a.dg.aJ L.aJ M).2.2.1;show Z (x.q H)<=_;omega
      .exact aO _
     omega
include H in
def oe.dlt(a:oe p F x)(k:1<Z x.f):x.d<Z x.f:=by let ⟨Q,q1,g⟩:=tk H _ (fx x.f:Fx p) (dK _) (by rw[dc a.dg.aJ.c];omega);have l:=a.dg.low Q q1 g;have i:=jJ H g<|a.dg.aJ.kH H;rw[dc a.dg.aJ.c]at i;omega
def aq7(hF:Mon p F)(hs:qU (fx F:Fx p))(t:Z F<=200)(L:∀d,2*d<Z F->2*p^d<=18446744073709551616):r q 205 [I aw F,cU p] (I (.sl aw)<|yi H (Z F) ⟨F,[0,1],1,[]⟩):=by
 refine aI Tryz.func205 ?_;have JR:=H.hp.1;have E:=H.le;have I0:=oe.start H hF hs t;generalize hR:yi H (Z F) ⟨F,[0,1],1,[]⟩=S at*;refine N J<|rb<|fT (.sl aw) [] J J (z J<|rb<|rl aw [0,1] J J (z J<|N J<|j<|N J ?_));refine au<|a8 (α:=Y×m0) (λy=>⟨[(0,I aw y.2.f),(1,cU p),(5,.c<|.X 1000000),(6,I aw [0,1]),(7,I aw y.2.h),(8,R y.2.d)],[(1000000,.vec 167 (.sl aw) y.2.o)],5,[]⟩) (λy=>oe p F y.2/\Z y.2.f<y.2.d+y.1/\yi H y.1 y.2=S) (λy=>y.1) (Z F,⟨F,[0,1],1,[]⟩) ⟨I0,(O:Z F<1+Z F),hR⟩ aM ?_;rintro⟨P,x⟩ ⟨i,hN,a⟩;simp only at i hN a;have ol:=i.ol H;have d1:=i.d1;have fl:=i.fl;refine j<|N J<|al J (λl=>?_)<|λl=>?_
 .have l:1<Z x.f:=by have l:(Z x.f:G)>1:=aU l;omega
  have hdl:=i.dlt H l;obtain⟨M,rfl⟩:∃M,P=M+1:=⟨P-1,O⟩;rw[yi,w O]at a;refine aD<|j<|au<|j<|N J (hp:=aF)<|al J (λu=>?_)<|λu=>cP<|aL ?_
  .have u:2*(x.d:G)>=(Z x.f:G):=aU u;rw[b O]at a;refine rb (rl (.sl aw) [x.f] J J (ra J J J J J J J J J ?_ ?_<|z J<|cY 7003000 J J J<|bL ?_))
   .show(Z x.o+1+(Z x.o+1)/4+192)*24<=_;omega
   .show(Z x.o+1)*1<=_;omega
   repeat(first|refine cK ?_|refine kX ?_|refine lI ?_)
   rw[<-a];exact eJ J J
  .have u:¬2*(x.d:G)>=(Z x.f:G):=a6 u;rw[w O]at a;have L:=L x.d O;let ⟨V,w2,w3⟩:=i.w H;let ⟨Q,g2,g3⟩:=i.g H;let ⟨m,n2⟩:=i.next H O L;let ⟨q1,q2,q3,q4⟩:=tC H i.dg.aJ Q.aJ g3;have k:(x.next H).f.length<(x.next H).d+M:=by
    rw[n2];have hq:(x.next H).f.length<=Z x.f:=by
     unfold m0.next;split
     .have:Z (x.q H)+(x.g H).length=Z x.f+1:=q3;show Z (x.q H)<=_;omega
     .exact aO _
    omega
   have v:=O6 H x.f x.h p O i.dg.aJ.c i.dg.aJ.ne i.hc i.hl O;have T:=Ii (x.w H) [0,1] p O az O O V.1 (afp H).1;have A:=py<|gx (x.w H) [0,1] p;rw[MQ]at A;have B:=EX p H.hp H.le x.f (aN<|gx (x.w H) [0,1] p) O (by simp at A;omega) i.dg.aJ.c<|k7 H.pos<|BQ H.pos _ _;have n:=zo p H.hp H.le x.f (x.g H) O O i.dg.aJ.c Q.aJ.c Q.aJ.ne;rw[v3 q1.c.2]at n;have U:iv H x.f (pk (fx x.h) p)=x.w H:=rfl;have W:gy p x.f (aN<|gx (x.w H) [0,1] p)=x.g H:=rfl;have e:(aS x.f (x.g H) p).1=x.q H:=rfl;rw[U]at v;rw[W]at B;rw[e]at n q3;refine bt J J v J<|rb<|rc J J T<|rc J J B<|z J<|N J<|al J (λC=>?_)<|λC=>?_
   .have C:((x.g H).length:G)>1:=aU C;let ⟨e1,e2,e3⟩:=afo H d1 O L O Q O;have s:x.next H=⟨x.q H,if 1<Z (x.q H)then(aS (x.w H) (x.q H) p).2 else x.w H,x.d+1,x.o++pY p (x.g H) x.d⟩:=by unfold m0.next;rw[b O]
    rw[s]at a m k;refine rb<|rc J J e3.fs<|ra J J J J J J J J J ?_ ?_<|z J<|bt J J n J<|N J<|al J (λK=>?_)<|λK=>?_
    .show(Z x.o+Z (pY p (x.g H) x.d)+(Z x.o+Z (pY p (x.g H) x.d))/4+192)*24<=_;omega
    .show(Z x.o+Z (pY p (x.g H) x.d))*1<=_;omega
    .have K:(Z (x.q H):G)>1:=aU K;rw[b O]at a m k;have D:=te p H.hp H.le (x.w H) (x.q H) O O V g2.aJ.c g2.aJ.ne;refine cu<|rc J J D<|z J<|eE<|aL<|rt J (hp:=aF)<|aT (M,⟨x.q H,(aS (x.w H) (x.q H) p).2,x.d+1,x.o++pY p (x.g H) x.d⟩) ⟨m,k,a⟩ (dK M)<|Wk.trans (wk (st':=⟨[(0,I aw<|x.q H),(1,cU p),(5,.c<|.X 10005000),(6,I aw [0,1]),(7,I aw (aS (x.w H) (x.q H) p).2),(8,R ((x.d+1:Y):G))],[(10005000,.vec 167 (.sl aw)<|x.o++pY p (x.g H) x.d)],16,[]⟩) (bO J) ⟨bR J,h⟩)<|Wk.trans (fU 1000000 10005000 J J J) aM
    .have K:¬(Z (x.q H):G)>1:=a6 K;rw[w O]at a m k;refine cP<|eE<|aL<|rt J (hp:=aF)<|aT (M,⟨x.q H,x.w H,x.d+1,x.o++pY p (x.g H) x.d⟩) ⟨m,k,a⟩ (dK M)<|Wk.trans (wk (st':=⟨[(0,I aw<|x.q H),(1,cU p),(5,.c<|.X 10005000),(6,I aw [0,1]),(7,I aw<|x.w H),(8,R ((x.d+1:Y):G))],[(10005000,.vec 167 (.sl aw)<|x.o++pY p (x.g H) x.d)],16,[]⟩) (bO J) ⟨bR J,h⟩)<|Wk.trans (fU 1000000 10005000 J J J) aM
   .have C:¬((x.g H).length:G)>1:=a6 C;have s:x.next H=⟨x.f,x.w H,x.d+1,x.o⟩:=by unfold m0.next;rw[w O]
    rw[s]at a m k;exact cP<|bw<|rt J (hp:=aF)<|aT (M,⟨x.f,x.w H,x.d+1,x.o⟩) ⟨m,k,a⟩ (dK M) aM
 .have l:¬(Z x.f:G)>1:=a6 l;have a:x.o=S:=by
   cases P with
   |zero=>exact a
   |succ P=>rwa[yi,b O]at a
  refine a7<|aL<|cY 1000000 J J J<|N J<|bL ?_;rw[<-a];exact eJ J J
end
end Go.El
