/- Plain: the factors modulo p with their multiplicities. Own work; no condition. -/
import Derived.Test.YtceihkmakfdcnaaGreatH11
import Derived.Test.YtceihkmakfdcnaaGreatH5
import Derived.Test.YtceihkmakfdcnaaGreatH8
import Derived.Test.YtceihkmakfdcnaaGreatH9
import Derived.Test.YtceihkmakfdcnaaGreatH7
set_option linter.all false
set_option maxHeartbeats 16000000
set_option maxRecDepth 100000
open Go.El renaming rr->I,cS->N,ar5->c,jg->M,re->j,cI->y,rb->R,vK->r
open Go.IntKind renaming wrap->aw
open Go.Proofs.Tryz renaming prog->z
open Int renaming toNat->af,natAbs->aA,natAbs_mul_self'->anS
open List renaming length->Z,getD->E,range->cd,take->h,getLast_eq_getElem->an7
open List.Pairwise renaming nil->H5
open Nat renaming div_le_div_left->aob
open Rat renaming divInt->iW
open _root_ renaming Nat->Y,List->V,Int->G,Rat->D
namespace Go.El
open Go Go.Proofs Go.RowKit Fx
abbrev MT:ET:= .pr (.sl aq) mi
def iu(p:Y):V (V G×G)->Fx p
 |[]=>1
 |x::l=>pk (fx x.1) (af x.2)*iu p l
def ab3(p:Y)(x:V G×G):∀l,iu p (l++[x])=iu p l*pk (fx x.1) (af x.2)
 |[]=>by show pk (fx x.1) (af x.2)*1=1*pk (fx x.1) (af x.2);rw[mul_one,one_mul]
 |a::l=>by rw[lY,iu,iu,ab3 p x l,mul_assoc]
def pull(p:Y)(g:V G):Y->V G->Y->V G×Y
 |0,f,n=>(f,n)
 |k+1,f,n=>if(aL f g p).2=[]then pull p g k (aL f g p).1 (n+1)else(f,n)
def ab4{p:Y}(H:bp p){g:V G}(a:Mon p g)(m:2<=Z g):∀(k:Y)(f:V G)(n:Y),Z f<k->Mon p f->Mon p (pull p g k f n).1/\(fx f:Fx p)*pk (fx g) n=fx (pull p g k f n).1*pk (fx g) (pull p g k f n).2/\¬(fx g:Fx p)∣fx (pull p g k f n).1/\n<=(pull p g k f n).2/\((fx g:Fx p)∣fx f->n+1<=(pull p g k f n).2/\(pull p g k f n).1.length<Z f)/\(pull p g k f n).1.length<=Z f
 |0,_,_,i,_=>by omega
 |k+1,f,n,i,d=>by
  rw[pull];split
  .rename_i e;have l:=(LW H d.c a.c a.ne).1 e;have q:=yC H d.c a.c a.ne l;have o:Z g<=Z f:=by have:=iK H l<|d.jM H;rwa[cO a.c,cO d.c]at this
   have s:=RI H d a o;let ⟨_,_,_,_,_,t⟩:=lq H.hp H.le d.c.1 a.c a.ne;have u:(aL f g p).1.length<Z f:=O;let ⟨i1,i2,i3,i4,i5,i6⟩:=ab4 H a m k (aL f g p).1 (n+1) O s;refine⟨i1,?_,i3,O,λ_=>⟨O,O⟩,O⟩;rw[<-i2,q,pk];ac_rfl
  .rename_i e;have l:¬(fx g:Fx p)∣fx f:=λi=>e ((LW H d.c a.c a.ne).2 i)
   exact⟨d,J,l,aW _,λi=>absurd i l,aW _⟩
structure tK(p:Y)(a:Fx p)(f:V G)(m:Y)(l:V (V G×G)):Prop where
 aH:Mon p f
 prod:a=pk (fx f) m*iu p l
 fI:∀x∈l,Mon p x.1/\2<=x.1.length/\bl (fx x.1:Fx p)/\1<=x.2
 nd:∀x∈l,¬(fx x.1:Fx p)∣fx f
 ds:l.Pairwise λx d=>x.1≠d.1
 m1:1<=m
def Tc{p:Y}(H:bp p){Q:Fx p}(a:2<=sz Q):∀m,m+1<=sz (pk Q m)
 |0=>by rw[pk,qF H];exact aW _
 |m+1=>by
  have d:Q≠0:=λe=>by rw[e,kh H.pos]at a;omega
  have f:=dK H (AY H d m) d;have g:=Tc H a m;rw[pk];omega
def ab5{p:Y}(H:bp p):∀{l:V (V G×G)},(∀x∈l,Mon p x.1/\2<=Z x.1/\1<=x.2)->iu p l≠0/\Z l+1<=sz (iu p l)/\∀x∈l,x.2+1<=sz (iu p l)
 |[],_=>⟨pj H,by rw[iu,qF H];exact aW _,λx hx=>by cases hx⟩
 |a::l,e=>by
  let ⟨d,h2,g⟩:=ab5 H (l:=l) λx hx=>e x lA
  let ⟨m1,i,k⟩:=e a ax;have f:(fx a.1:Fx p)≠0:=m1.jM H;have m:=Tc H (show 2<=sz (fx a.1:Fx p)by rw[cO m1.c];exact i)<|af a.2;have n:=dK H (AY H f<|af a.2) d;have o:=eO H.pos d;refine⟨o6 H (AY H f _) d,?_,λx hx=>?_⟩
  .rw[iu,gQ];omega
  .rw[iu];rcases bX.1 hx with rfl|hx
   .omega
   .have:=g x hx;omega
def tK.bounds{p}(H:bp p){e}{f}{m}{l}(a:tK p e f m l):Z l+1<=sz e/\(∀x∈l,x.2+1<=sz e)/\(2<=Z f->m+1<=sz e):=by
 let ⟨g,h2,i⟩:=ab5 H (l:=l) λx d=>⟨(a.fI x d).1,(a.fI x d).2.1,(a.fI x d).2.2.2⟩
 have k:=dK H (AY H (a.aH.jM H) m) g;have o:=eO H.pos<|AY H (a.aH.jM H) m;rw[<-a.prod]at k;refine⟨O,λx d=>by have:=i x d;omega,λn=>?_⟩;have q:=Tc H (show 2<=sz (fx f:Fx p)by rw[cO a.aH.c];exact n) m;omega
def tK.start{p:Y}{f:V G}(d:Mon p f):tK p (fx f) f 1 [] where
 aH:=d
 prod:=by rw[qE,iu,mul_one]
 fI:=λx a=>by cases a
 nd:=λx a=>by cases a
 ds:=H5
 m1:=aW _
def jc(p n:Y):Y:=(n+p-1)/p
def ab6{p}(H:bp p){f}(k:Mon p f)(P:2<=Z f)(s:bt (fx f:Fx p)=0):Mon p (lP p f<|jc p<|Z f)/\(fx f:Fx p)=pk (fx<|lP p f<|jc p<|Z f) p/\2<=Z (lP p f<|jc p<|Z f)/\Z (lP p f<|jc p<|Z f)<Z f:=by
 have l:=H.hp.1;have a:Z (lP p f<|jc p<|Z f)=jc p (Z f):=by simp[lP]
 have m:Z f<=jc p (Z f)*p:=by unfold jc;have:=qh (Z f+p-1) p;have:=fg (Z f+p-1) (O:0<p);rw[gO];omega
 have n:=Fx.cP H s m;have u:(Z f-1)%p=0:=eX λQ=>by
  have x:=mk_eq.1 (s:mk (pE<|ps f) (wW<|bc.ps p f)=mk 0 (bc.zero p));have v:=x.at<|Z f-2;rw[PS.lL,gA]at v;have B:((Z f-2:Y):G)+1=((Z f-1:Y):G):=O;have C:pE (ps f) (Z f-2)=((Z f-1:Y):G)*1:=by show(((Z f-2:Y):G)+1)*E f (Z f-2+1) 0=_;rw[B,(O:Z f-2+1=Z f-1),k.one]
  rw[C,mm]at v;omega
 obtain⟨t,F⟩:∃t,Z f-1=t*p:=⟨(Z f-1)/p,by have:=qh (Z f-1) p;rw[gO];omega⟩;have o:jc p (Z f)=t+1:=by unfold jc;rw[(O:Z f+p-1=t*p+p),(EV:t*p+p=(t+1)*p)];exact PY _ O
 have K:1<=t:=by
  rcases oW t with e|e
  .subst e;omega
  .exact e
 have L:t*2<=t*p:=ia t l;have d:∀i,E (lP p f<|jc p<|Z f) i 0=if i<jc p (Z f)then E f (i*p) 0 else 0:=λi=>by
  by_cases q:i<jc p (Z f)
  .rw[ao q];exact ank _ q
  .rw[w q,eN _ O]
 have g:E (lP p f<|jc p<|Z f) (Z (lP p f<|jc p<|Z f)-1) 0=1:=by rw[a,d,ao O,o,eh,<-F,k.one]
 refine⟨⟨⟨λi=>?_,.inr (by rw[g];decide)⟩,λe=>by rw[e]at a;simp at a;omega,g⟩,n,O,O⟩;rw[d];split
 .exact k.c.1 _
 .exact⟨gK _,H.pos⟩
structure Bl(p:Y)(f:V G)(a:V (V G)):Prop where
 ok:∀g∈a,Mon p g/\2<=g.length/\bl (fx g:Fx p)/\(fx g:Fx p)∣fx f
 ds:a.Pairwise λx d=>x≠d
def ano{p}(H:bp p){a d}(f:Mon p a)(g:Mon p d)(m:bl (fx d:Fx p))(n:2<=Z a)(o:(fx a:Fx p)∣fx d):a=d:=by
 let ⟨w,hw⟩:=o;have i:sz (fx a:Fx p)≠1:=by rw[cO f.c];omega
 rcases m.2 _ _ hw with e|e
 .obtain⟨c,k,rfl⟩:=Dt H e;have q:=dK H (uM H k)<|f.jM H;rw[<-hw,cO g.c,cO f.c,uQ H k]at q;have s:Z d=Z a:=O;have l:(ps d) (Z a-1)%(p:G)=(PS.K c*ps a) (Z a-1)%(p:G):=(mk_eq.1<|show(mk (ps d) (bc.ps p d):Fx p)=mk (PS.K c*ps a) ((bc.K p c).mul<|bc.ps p a)from hw).at _;rw[PS.eW,cy,cy,f.one,<-s,g.one,mm]at l;have t:(K c:Fx p)=1:=by rw[<-oh];exact AS l.symm
  rw[t,one_mul]at hw;exact(tx g.c f.c hw).symm
 .exact absurd e i
def M6{p:Y}(H:bp p){Q a:Fx p}(d:bl Q):∀n,Q∣pk a n->Q∣a
 |0,f=>absurd f<|d.AI H
 |n+1,f=>by
  rcases d.na H (show Q∣pk a n*a from f)with e|e
  .exact M6 H d n e
  .exact e
def tK.pull{p}(H:bp p){t}{f}{m}{l}(d:tK p t f m l){g}{u}(i:Bl p f (g::u)):
  tK p t (pull p g (Z f+1) f 0).1 m (l++[(g,(((pull p g (Z f+1) f 0).2:Y):G)*(m:G))])/\Bl p (pull p g (Z f+1) f 0).1 u/\(pull p g (Z f+1) f 0).1.length<Z f:=by
 let ⟨o,g2,v,B⟩:=i.ok g ax
 let ⟨q1,q2,C,W,F,X⟩:=ab4 H o g2 (Z f+1) f 0 (dJ _) d.aH
 let ⟨b,K⟩:=F B
 generalize Go.El.pull p g (Z f+1) f 0=x at*
 let ⟨c,n⟩:=x
 simp only at q1 q2 C W F X b K⊢
 rw[pk,mul_one]at q2
 let ⟨d1,d2⟩:=jr.1 i.ds
 have q:(fx c:Fx p)∣fx f:=M7
 refine⟨⟨q1,?_,?_,?_,?_,d.m1⟩,⟨λk L=>?_,d2⟩,K⟩
 .rw[d.prod,q2,ab3,tk];have e:af ((n:G)*(m:G))=n*m:=by rw[<-eY,b6]
  simp only[e,tj];ac_rfl
 .intro x a;rcases aY.1 a with a|a
  .exact d.fI x a
  .have e:=iU.1 a;subst e;refine⟨o,g2,v,?_⟩;have:=yg (O:0<n) (show 0<m from d.m1);show(1:G)<=(n:G)*(m:G);rw[<-eY];omega
 .intro x a;rcases aY.1 a with a|a
  .exact λj=>d.nd x a<|dvd_trans j q
  .have e:=iU.1 a;subst e;exact C
 .refine w5.2 ⟨d.ds,RB _ _,λx a y r e=>?_⟩;have w:=iU.1 r;subst w;exact d.nd x a (by rw[e];exact B)
 .let ⟨P,Q,s,U⟩:=i.ok k (by simp[L]);refine⟨P,Q,s,?_⟩;rw[q2]at U;rcases s.na H U with e|e
  .exact e
  .exact absurd (ano H P o v Q<|M6 H s n e).symm<|d1 k L
noncomputable def gn(p:Y)(m:Y):V (V G)->V G×V (V G×G)->V G×V (V G×G)
 |[],x=>x
 |g::a,x=>gn p m a ((pull p g (Z x.1+1) x.1 0).1,x.2++[(g,(((pull p g (Z x.1+1) x.1 0).2:Y):G)*(m:G))])
def Td{p:Y}(H:bp p){i:Fx p}{m:Y}:∀(a:V (V G))(f:V G)(l:V (V G×G)),tK p i f m l->Bl p f a->tK p i (gn p m a (f,l)).1 m (gn p m a (f,l)).2/\(gn p m a (f,l)).1.length<=Z f/\(a≠[]->(gn p m a (f,l)).1.length<Z f)
 |[],_,_,d,_=>⟨d,aW _,λe=>absurd J e⟩
 |g::a,f,l,d,k=>by let ⟨i1,i2,i3⟩:=d.pull H k;let ⟨j1,j2,_⟩:=Td H a _ _ i1 i2;rw[gn];exact⟨j1,by simp only at j2⊢;omega,λ_=>by simp only at j2⊢;omega⟩
def anp{p}(H:bp p){f}(a:aK (jm p f)=[]):bt (fx f:Fx p)=0:=by rw[<-Ta,<-DD,a,jL]
structure Bm(p:Y)(F:Fx p)(l:V (V G×G)):Prop where
 parts:∀x∈l,Mon p x.1/\2<=x.1.length/\bl (fx x.1:Fx p)/\1<=x.2
 ds:l.Pairwise λx a=>x.1≠a.1
 prod:iu p l=F
end Go.El
namespace Go.El
open Go Go.Proofs Go.RowKit
def ox(a d:G):G:=if a<d then-1 else if a>d then 1 else 0
def Bn(a d:V G):Y->G
 |0=>0
 |i+1=>if ox (E a i 0) (E d i 0)≠0 then ox (E a i 0) (E d i 0)else Bn a d i
def qT(a d:V G):G:=if Z a≠Z d then ox (Z a) (Z d)else Bn a d (Z a)
section
variable{α:Type}{d:α}{cm:α->α->G}
def gAd(d:α)(cm:α->α->G)(xs:V (α))(k:Y):Prop:=∀t,t<k->0<=cm (E xs (t+1) d) (E xs t d)
end
open Fx
abbrev d0M:V G×G:=([],0)
def anq a d:ox a d= -ox d a:=by unfold ox;split<;>split<;>(try split)<;>omega
end Go.El
namespace Go.El
open Go Go.Proofs Go.RowKit
namespace Rx
def M8(t:D)(m:Y):∀n:Y,t^(m+n)=t^m*t^n
 |0=>by rw[iR,xf,tn]
 |n+1=>by rw[<-pW,xg,M8 t m n,xg,nE]
def Te(s t:D):∀n:Y,(s*t)^n=s^n*t^n
 |0=>by rw[xf,xf,xf,tn]
 |n+1=>by rw[xg,xg,xg,Te s t n];grind
def Tf:∀n:Y,(1:D)^n=1
 |0=>xf _
 |n+1=>by rw[xg,Tf n,tn]
def Ea{t:D}(a:t≠0):∀n:Y,t^n≠0
 |0=>by rw[xf];decide
 |n+1=>λe=>by
  rw[xg]at e;rcases yw.1 e with e|e
  .exact Ea a n e
  .exact a e
def fK(t:D)(a:Rx):Rx:=⟨λi=>t^i*a i,by let ⟨n,d⟩:=a.2;exact⟨n,λi e=>by show t^i*a.v i=0;rw[d i e,fO]⟩⟩
def nJ t a i:fK t a i=t^i*a i:=rfl
def M9 t a B:fK t (a*B)=fK t a*fK t B:=ext λn=>by
 rw[nJ,e9,e9,<-Lj];refine th λi d=>?_
 rw[nJ,nJ];have:t^n=t^i*t^(n-i):=by rw[<-M8,(O:i+(n-i)=n)]
 rw[this];grind
def anr t a B:fK t (a+B)=fK t a+fK t B:=ext λn=>by rw[nJ,eI,eI,nJ,nJ,Rat.mul_add]
def ans t a:fK t (K a)=K a:=ext λn=>by
 rw[nJ,mz];split
 .rename_i h;rw[h,xf,rQ]
 .rw[fO]
def ab9 t:fK t 1=1:=ans t 1
def ab' s t a:fK s (fK t a)=fK (s*t) a:=ext λn=>by rw[nJ,nJ,nJ,Te,nE]
def aca a:fK 1 a=a:=ext λn=>by rw[nJ,Tf,rQ]
def ant t a:bt (fK t a)=K t*fK t (bt a):=ext λn=>by rw[pn,nJ,fZ,nJ,pn,xg];grind
def M'{t}(e:t≠0) d:sz (fK t d)=sz d:=by
 have a:∀(s:D)(B:Rx),sz (fK s B)<=sz B:=λs B=>tm λi f=>by rw[nJ,lN f,fO]
 have k:=a t d;have g:=a t⁻¹ (fK t d);rw[ab',mA t e,aca]at g;omega
def bl.fK{t}(a:t≠0){d}(f:bl d):bl (fK t d):=by
 refine⟨by rw[M' a];exact f.1,λX Y e=>?_⟩;have g:d=Rx.fK t⁻¹ X*Rx.fK t⁻¹ Y:=by rw[<-M9,<-e,ab',mA t a,aca]
 have:=f.2 _ _ g;rwa[M' (qG a),M'<|qG a]at this
def Co.fK{t}{a B}(d:Co a B):Co (fK t a) (Rx.fK t B):=by let ⟨U,V,e⟩:=d;refine⟨Rx.fK t U,Rx.fK t V,?_⟩;rw[<-M9,<-M9,<-anr,e,ab9]
noncomputable def mS(t:D)(a:Rx):Rx:=K (t^(sz a-1))*fK t⁻¹ a
def acb{t}(d:t≠0) a:sz (mS t a)=sz a:=by
 by_cases h:a=0
 .subst h;have e:fK t⁻¹ 0=(0:Rx):=ext λi=>by rw[nJ,lL,fO]
  rw[mS,e,mul_zero]
 .have f:=M' (qG d) a;have g:fK t⁻¹ a≠0:=λe=>by rw[e,kh]at f;have:=eO h;omega
  have k:=dK (uM<|Ea d<|sz a-1) g;rw[uQ (Ea d _),f]at k;show sz (K _*_)=_;omega
def H6{t:D}(a:t≠0)(n:Y):t^n*t⁻¹ ^n=1:=by rw[<-Te,Rat.mul_inv_cancel t a,Tf]
def H7{t}a i:mS t a i=t^(sz a-1)*(t⁻¹ ^i*a i):=by rw[mS,fZ,nJ]
def anu{t}(a:t≠0){d}(e:Mo d):Mo (mS t d):=by rw[Mo,acb a,H7,<-nE,H6 a,rQ];exact e
def anv t:mS t 1=1:=by rw[mS,qF,ab9,mul_one];show K (t^0)=1;rw[xf,oh]
def anw{t}{a B}(d:a≠0)(e:B≠0):mS t (a*B)=mS t a*mS t B:=by have h:=dK d e;have f:=eO d;have g:=eO e;rw[mS,mS,mS,M9,(O:sz (a*B)-1=(sz a-1)+(sz B-1)),M8,eW];ac_rfl
def anx{t}(a:t≠0) d:mS t⁻¹ (mS t d)=d:=ext λi=>by rw[H7,H7,acb a,Rat.inv_inv];have e:=H6 a<|sz d-1;have f:=H6 a i;grind
def anz{t}(a:t≠0){d}(e:bl d):bl (mS t d):=bl.smul (e.fK<|qG a)<|Ea a _
def anA{t}(d:t≠0){a}(f:Co a (bt a)):Co (mS t a) (bt<|mS t a):=by have g:=Ea d<|sz a-1;have i:=qG d;let ⟨U,V,e⟩:=f.fK (t:=t⁻¹);refine⟨K (t^(sz a-1))⁻¹ *U,K (t^(sz a-1))⁻¹ *(K (t⁻¹)⁻¹ *V),?_⟩;rw[mS,GX,ant,<-e];have k:=pa g;have l:=pa i;have m:K (t^(sz a-1))⁻¹ *U*(K (t^(sz a-1))*fK t⁻¹ a)=(K (t^(sz a-1))⁻¹ *K (t^(sz a-1)))*(U*fK t⁻¹ a):=fq;have n:K (t^(sz a-1))⁻¹ *(K (t⁻¹)⁻¹ *V)*(K (t^(sz a-1))*(K t⁻¹ *fK t⁻¹ (bt a)))=(K (t^(sz a-1))⁻¹ *K (t^(sz a-1)))*((K (t⁻¹)⁻¹ *K t⁻¹)*(V*fK t⁻¹ (bt a))):=fq;rw[m,n,k,l,one_mul,one_mul,one_mul]
end Rx
open Rx
def hO(a:V D):Y->Y
 |0=>1
 |i+1=>hO a i*((E a i 0).den/Nat.gcd (hO a i) (E a i 0).den)
def dC(a:V D):Y:=hO a<|Z a
def dD(a:V D):V G:=(cd<|Z a).map λk=>(E a k 0).num*((dC a:Y):G)^(Z a-1-k)/((E a k 0).den:G)
def jO(a:Y)(g:V G):V D:=(cd<|Z g).map λk=>iW (E g k 0)<|(a:G)^(Z g-1-k)
noncomputable def nk:V (V D)->Rx
 |[]=>1
 |u::l=>lx u*nk l
def Tg a i:hO a (i+1)=Nat.lcm (hO a i) (E a i 0).den:=by rw[hO,Nat.lcm,Nat.mul_div_assoc _<|Ql _ _]
def Ec(a:V D):∀i,∀d,d<i->(E a d 0).den∣hO a i
 |0,_,f=>by omega
 |i+1,d,f=>by
  rw[Tg];by_cases e:d=i
  .subst e;exact Nat.dvd_lcm_right _ _
  .exact DC (Ec a i d O)<|Nat.dvd_lcm_left _ _
def Th(a:V D){d:Y}(e:∀f,(E a f 0).den∣d):∀i,hO a i∣d
 |0=>Nat.one_dvd _
 |i+1=>by rw[Tg];exact Nat.lcm_dvd (Th a e i)<|e i
def Ed(a:V D):∀i,0<hO a i
 |0=>Nat.zero_lt_one
 |i+1=>by rw[Tg];exact Nat.lcm_pos (Ed a i) (E a i 0).den_pos
def y8 a:Z (dD a)=Z a:=by simp[dD]
def Na a{k}(d:k<Z a):E (dD a) k 0=(E a k 0).num*((dC a:Y):G)^(Z a-1-k)/((E a k 0).den:G):=by unfold dD;rw[aM,iV,kK d];rfl
def Nb a{D}(d:(a.den:G)∣D):((a.num*D/(a.den:G):G):Rat)=(D:Rat)*a:=by
 obtain⟨e,rfl⟩:=d;have f:(a.den:G)≠0:=by have:=a.den_pos;omega
 have g:a.num*((a.den:G)*e)/(a.den:G)=a.num*e:=by rw[(fq:a.num*((a.den:G)*e)=(a.num*e)*(a.den:G)),Int.mul_ediv_cancel _ f]
 rw[g,fJ,fJ,<-LM a];have:(((a.den:Y):G):Rat)=((a.den:Y):Rat):=rfl;rw[this];grind
structure iL(a:V D):Prop where
 one:a.getD (a.length-1) 0=1
 l2:2<=a.length
 l9:a.length<=9
 co:Co (lx a) (bt<|lx a)
 aB:∀i,aG 6 ((dD a).getD i 0)
section
variable{a:V D}
def H8 a:((dC a:Y):D)≠0:=wN<|Ry.1<|Ed a _
def iL.can(d:iL a):bF a:= .inr (by rw[d.one];decide)
def iL.sz(d:iL a):Rx.sz (lx a)=Z a:=fj d.can
def Ti(d:Y):∀n:Y,(((d:G)^n:G):D)=((d:Y):D)^n
 |0=>by rw[n7,xf];rfl
 |n+1=>by rw[fb,fJ,Ti d n,xg];rfl
def acd{t:D}(d:t≠0){m k:Y}(f:k<=m):t^m*t⁻¹ ^k=t^(m-k):=by
 have e:t^m=t^(m-k)*t^k:=by rw[<-M8,(O:m-k+k=m)]
 rw[e,nE,H6 d,tn]
def iL.zx(d:iL a):Rx.zx (dD a)=mS ((dC a:Y):D) (lx a):=Rx.ext λi=>by
 rw[km,H7,d.sz,gC];by_cases f:i<Z a
 .rw[Na a f,Nb,Ti,<-nE,acd (H8 a) O];by_cases e:i=Z a-1
  .rw[e,d.one];exact Int.one_dvd _
  .have g:(E a i 0).den∣dC a:=Ec a _ i f;have k:((E a i 0).den:G)∣((dC a:Y):G):=wz.2 g;obtain⟨j,l⟩:∃j,Z a-1-i=j+1:=⟨Z a-1-i-1,O⟩;rw[l,fb];exact GK k<|A2 _ _
 .rw[eN _ (by rw[y8];omega),iJ a O,fO,fO];rfl
def iL.aH(d:iL a):aH (dD a):=by have f:=d.l2;refine⟨λe=>by have:=y8 a;rw[e]at this;simp at this;omega,?_⟩;rw[y8,Na a O,d.one,ma,n7];rfl
def iL.ace(d:iL a){l}(g:l.Nodup)(k:∀p∈l,bp p)(m:wV<pC l):∃p∈l,Fx.Co (Fx.fx (dD a):Fx (p:Y)) (Fx.bt<|Fx.fx<|dD a):=by
 have q:=d.l2;have s:=d.l9;obtain⟨n,e⟩:∃n,Z a=n+2:=⟨Z a-2,O⟩;have f:Co (Rx.zx<|dD a) (bt<|Rx.zx<|dD a):=by rw[d.zx];exact anA (H8 a) d.co
 refine akY g k m (n:=n) (by rw[y8];exact e) d.aH f (B:=2^192) T (λi=>?_) ?_
 .have:=d.aB i;unfold aG at this;omega
 .have o:2*((2*n+2)*((n+1)*2^192))<=2^200:=by have t:(2*n+2)*(n+1)<=16*8:=mn O O;rw[<-uB (2*n+2)];omega
  refine bQ (AQ o _) ?_;refine bQ (fh T (O:2*n+1<=15)) ?_;decide+kernel
def iL.mf(d:iL a):H4 (dD a):=⟨d.aH,by rw[y8];exact d.l2,by rw[y8];exact d.l9,d.aB,d.ace akI (λ_ e=>anl e) akK⟩
def Nc d g:Z (jO d g)=Z g:=by simp[jO]
def Tj d g{k}(e:k<Z g):E (jO d g) k 0=iW (E g k 0) ((d:G)^(Z g-1-k)):=by unfold jO;rw[aM,iV,kK e];rfl
def anB e{d:Y}(i:0<d) n:iW e ((d:G)^n)=((d:Y):D)⁻¹ ^n*(e:D):=by
 have f:((d:Y):D)≠0:=wN O;rw[Lv,Ti,yr];have k:=H6 f n;have g:(((d:Y):D)^n)⁻¹ =((d:Y):D)⁻¹ ^n:=by have l:=mA _<|Ea f n;grind
 rw[g,Dm]
def acf{d:Y}(e:0<d){g:V G}(f:Go.El.aH g):lx (jO d g)=mS ((d:Y):D)⁻¹ (Rx.zx g):=Rx.ext λi=>by
 have k:((d:Y):D)≠0:=wN O;rw[H7,ko<|aH.can f,km,gC];by_cases l:i<Z g
 .rw[Tj d g l,anB _ e,<-nE,acd (qG k) O]
 .rw[iJ _ (by rw[Nc];omega),eN g O];show(0:D)=_*(_*((0:G):D));rw[show((0:G):D)=0 from J,fO,fO]
def acg{d}{g}(e:Go.El.aH g):E (jO d g) (Z (jO d g)-1) 0=1:=by have:=cv.2 e.1;rw[Nc,Tj d g O,e.2,ma,n7];rfl
def ach{f:Y}(k:0<f):∀{d:V (V G)},(∀g∈d,Go.El.aH g)->nk (d.map<|jO f)=mS ((f:Y):D)⁻¹ (oq d)
 |[],_=>(anv _).symm
 |g::d,e=>by
  have l:oq d≠0:=by
   have i:∀{d:V (V G)},(∀g∈d,Go.El.aH g)->oq d≠0:=by
    intro d;induction d with
    |nil=>intro _;exact pj
    |cons g d m=>intro e;exact o6 (nf<|e g ax).ne<|m λx hx=>e x lA
   exact i λx hx=>e x lA
  rw[gR,nk,oq,anw (nf<|e g ax).ne l,acf k<|e g ax,ach k λx hx=>e x lA]
def iL.unG(m:iL a){d}(i:∀k∈d,Go.El.aH k/\Rx.bl (Rx.zx k))(n:Rx.oq d=Rx.zx (dD a)):(∀u∈d.map (jO<|dC a),E u (Z u-1) 0=1/\bF u/\Mo (lx u)/\bl (lx u))/\nk (d.map<|jO<|dC a)=lx a:=by
 have l:0<dC a:=Ed a _;refine⟨λu o=>?_,?_⟩
 .obtain⟨g,f,rfl⟩:=je.1 o;let ⟨e,g2⟩:=i g f;rw[acf l e];exact⟨acg e,.inr (by rw[acg e];decide),anu (qG<|H8 a)<|nf e,anz (qG<|H8 a) g2⟩
 .rw[ach l λg f=>(i g f).1,n,m.zx,anx (H8 a)]
end
end Go.El
namespace Go.El
open Go Go.Proofs Go.RowKit Fx
def aci{x a}:dz x a<=0↔x<=a:=by
 unfold dz;split
 .omega
 .split<;>omega
end Go.El
namespace Go.El
open Go Go.Proofs Go.RowKit
def Tk(a:V D)(e:∀i,QS 20 (E a i 0)):∀i,aG (20*i+1) ((hO a i:Y):G)
 |0=>aG.one (a:=1) T
 |i+1=>by have f:=Tk a e i;have g:=(e i).d;have l:hO a (i+1)<=hO a i*(E a i 0).den:=ia _<|Nat.div_le_self _ _;have k:=f.mul g;rw[<-eY]at k;unfold aG at*;rw[ob]at*;rw[(O:20*(i+1)+1=20*i+1+20)];omega
def oy{a:Type}(f:Y->a)(d:a)(n e:Y):V a:=(cd n).map λk=>if n<=k+e then f k else d
def anD{a:Type}(f:Y->a) d n e:Z (oy f d n e)=n:=by simp[oy]
def anE{a:Type}(f:Y->a) d n:List.replicate n d=oy f d n 0:=by
 refine sK (by simp[oy]) λi g e=>?_
 simp[oy]at e⊢;omega
def acj{k:Type}(f:Y->k) d{n a}(m:a<n):(oy f d n a).set (n-1-a) (f<|n-1-a)=oy f d n (a+1):=by
 refine sK (by simp[oy]) λi o l=>?_
 rw[List.getElem_set];simp only[oy,zY,Jq];simp only[oy,cR,rO]at l;by_cases e:n-1-a=i
 .subst e;rw[ao J,ao O]
 .rw[w e];by_cases g:n<=i+a
  .rw[ao g,ao O]
  .rw[w g,w O]
def anF{a:Type}(f:Y->a) d n:oy f d n n=(cd n).map f:=by
 refine sK (by simp[oy]) λi e g=>?_
 simp[oy]
def ack{g:V G}:∀{l:V (V G)},g∈l->Rx.zx g∣Rx.oq l
 |f::l,a=>by
  rw[Rx.oq];rcases bX.1 a with rfl|a
  .exact Rx.dvd_mul_right _ _
  .exact Rx.dI (ack a) _
def acm:∀{l:V (V G)},(∀g∈l,Rx.bl (Rx.zx g))->Rx.oq l≠0/\Z l+1<=Rx.sz (Rx.oq l)
 |[],_=>⟨Rx.pj,by rw[Rx.oq,Rx.qF];exact aW _⟩
 |g::l,d=>by
  let ⟨i1,i2⟩:=acm (l:=l) λx hx=>d x lA
  have a:=d g ax;have:=Rx.dK a.ne i1;have:=a.1;rw[Rx.oq];exact⟨Rx.o6 a.ne i1,Ls⟩
def pN(a d:V D):Y->G
 |0=>0
 |i+1=>if m7 (E a i 0) (E d i 0)≠0 then m7 (E a i 0) (E d i 0)else pN a d i
def iM(a d:V D):G:=if Z a≠Z d then ox (Z a) (Z d)else pN a d (Z a)
abbrev xh:V D×G:=([],0)
def Ee(x a:V D×G):G:=iM x.1 a.1
structure Ef(w:Y)(x:V D×G):Prop where
 l:x.1.length<=1000
 q:∀i,QS w (x.1.getD i 0)
open Rx
def CD(a d:Y)(e:Rx):Prop:=0<a/\∀i,∃z:G,aA z<=d/\((a:Y):D)*e i=(z:D)
def CD.int{a e}{d}(f:CD a e d):dk (K ((a:Y):D)*d):=dk.of λi=>by let ⟨z,_,h2⟩:=f.2 i;exact⟨z,by rw[fZ,h2]⟩
def CD.le{a d e}{f}(g:CD a d f)(k:d<=e):CD a e f:=⟨g.1,λi=>by let ⟨z,l,h2⟩:=g.2 i;exact⟨z,bQ l k,h2⟩⟩
def CD.low{g d k}{a}(l:CD g k a)(o:d∣g)(p:dk (K ((d:Y):D)*a)):CD d k a:=by
 obtain⟨j,rfl⟩:=o;have t:=l.1;have q:0<d:=qn λe=>by subst e;omega
 have j0:0<j:=qn λe=>by subst e;omega
 refine⟨q,λi=>?_⟩;let ⟨z,m,h2⟩:=l.2 i;have f:=p.at i;rw[fZ]at f;refine⟨_,?_,f⟩;generalize nu (K ((d:Y):D)*a) i=y at*;have n:((j:G):D)*(y:D)=(z:D):=by rw[<-h2,<-f,yG,qK];grind
 rw[<-fJ]at n;have s:(j:G)*y=z:=wU.1 n;rw[<-s,qv]at m;have:1*aA y<=j*aA y:=ef _ j0;have e:aA ((j:G))=j:=rfl;rw[e]at m;omega
def anG{a}{d}(f:∀i,aA (a i)<=d):∀n,Rx.mX n a<=(((n+1)*d:Y):G):=by
 intro n;have e:∀k,sm (λi=>(aA (a i):G)) k<=((k*d:Y):G):=by
  intro k;induction k with
  |zero=>simp[sm]
  |succ k g=>
   rw[sm]
   have:=f k
   rw[gk,iT]
   omega
 exact e<|n+1
def CD.div{u g}{o a}(hA:Mo o)(v:Mo a)(hd:a∣o)(W:CD u g o):∃d,Dn a d/\d∣u/\CD d (2^(sz o-1)*(sz o*g)) a:=by
 obtain⟨E,rfl⟩:=hd;have x:Mo E:=hA.yy v;let ⟨d,f⟩:=Hl a;let ⟨e,p⟩:=Hl E;let ⟨n,C⟩:=Hl<|E*a;have X:=Ze x v p f C;have q:=C.dvd u W.int;have F:d∣u:=DC ⟨e,by rw[X,gO]⟩ q;have H:=W.low q C.int;have V:=dK x.ne v.ne;have Z:=eO x.ne;have s2:=eO v.ne;refine⟨d,f,F,f.pos,λi=>⟨nu (K ((d:Y):D)*a) i,?_,by rw[<-fZ];exact f.int.at i⟩⟩;have b:∀{m:Y}{B:Rx},0<m->sz (K ((m:Y):D)*B)<=sz B:=λ_=>tm λi w=>by rw[fZ,lN w,fO]
 have y:nu (K ((e:Y):D)*E) (sz E-1)≠0:=λI=>by have s:=p.int.at<|sz E-1;rw[fZ,I]at s;have L:E (sz E-1)=1:=x;rw[L,tn]at s;exact wN (Ry.1 p.pos) s
 have P:=Zh (A:=nu<|K ((d:Y):D)*a) (B:=nu<|K ((e:Y):D)*E) (k:=sz a-1) (l:=sz E-1) (λj J=>yF<|by have:=b (B:=a) f.pos;omega) (λj J=>yF<|by have:=b (B:=E) p.pos;omega) y i;have N:nu (K ((d:Y):D)*a)*nu (K ((e:Y):D)*E)=nu (K ((n:Y):D)*(E*a)):=by rw[<-Hk f.int p.int];congr 1;rw[X,yG,eW];ac_rfl
 rw[N]at P;have R:∀i,aA (nu (K ((n:Y):D)*(E*a)) i)<=g:=λi=>by let ⟨z,s,L⟩:=H.2 i;have r:=C.int.at i;rw[fZ,L]at r;rw[<-wU.1 r];exact s
 have t:=anG R<|sz a-1+(sz E-1);rw[(O:sz a-1+(sz E-1)=sz (E*a)-1)]at P t;have Q:(0:G)<=2^(sz (E*a)-1):=Int.le_of_lt<|mI T;have U:=rY P<|jQ t Q;rw[(O:sz (E*a)-1+1=sz (E*a))]at U;have S:(2:G)^(sz (E*a)-1)*((sz (E*a)*g:Y):G)=((2^(sz (E*a)-1)*(sz (E*a)*g):Y):G):=by rw[eY (2^(sz (E*a)-1)),s7];rfl
 rw[S]at U;exact LN.1 U
def CD.ht{a e d}{f}(h:CD a e f)(g:a<=d)(k:e<=d):Ht d f:=⟨(a:G),Av,g,λi=>by let ⟨z,l,h2⟩:=h.2 i;exact⟨z,bQ l k,h2⟩⟩
def acn{a}{d e}(f:CD d e (lx a)):dC a∣d:=Th a (λj=>by
 let ⟨z,_,h2⟩:=f.2 j;rw[gC]at h2;have g:=LM<|E a j 0;generalize E a j 0=r at*;have i:((d:G)*r.num:G)=z*(r.den:G):=by refine wU.1 ?_;rw[fJ,fJ,<-g,<-h2,qK,qK];grind
 have k:(r.den:G)∣r.num*(d:G):=⟨z,by rw[et,i,et]⟩;have l:r.den∣aA r.num*d:=by have:=Gt.2 k;rwa[qv]at this
 exact(r.reduced.symm.dvd_of_dvd_mul_left l)) _
def anH a:dk (K ((dC a:Y):D)*lx a):=dk.of λi=>by
 by_cases e:i<Z a
 .refine⟨(E a i 0).num*((dC a:Y):G)/((E a i 0).den:G),?_⟩;have d:(E a i 0).den∣dC a:=Ec a _ i e;rw[Nb _ (wz.2 d),fZ,gC];rfl
 .exact⟨0,by rw[fZ,gC,iJ a O,fO];rfl⟩
def anI{a}{d m e t}(g:CD d m (lx a))(f:E a (Z a-1) 0=1)(o:d<=2^e)(p:m<=2^t)(H:(Z a-2)*e+t<=191) i:aG 6 (E (dD a) i 0):=by
 have q:(4294967296:Y)^6=2^192:=T;unfold aG;rw[q];by_cases k:i<Z a
 .by_cases s:i=Z a-1
  .subst s;rw[Na a k,f,ma,n7];exact Nat.one_lt_two_pow T
  .have u:=g.low (acn g)<|anH a;let ⟨z,v,h2⟩:=u.2 i;rw[gC]at h2;have x:dC a<=2^e:=bQ (uE g.1<|acn g) o;obtain⟨j,B⟩:∃j,Z a-1-i=j+1:=⟨Z a-1-i-1,O⟩;have C:(E a i 0).num*((dC a:Y):G)^(j+1)/((E a i 0).den:G)=((dC a:Y):G)^j*z:=by
    refine wU.1 ?_;have l:((E a i 0).den:G)∣((dC a:Y):G)^(j+1):=by rw[fb];exact GK (wz.2<|Ec a _ i k)<|A2 _ _
    rw[Nb _ l,fJ,<-h2,fb,fJ,qK];grind
   rw[Na a k,B,C,qv,Int.natAbs_pow,ob];have F:dC a^j<=2^(e*j):=by rw[Dc];exact AQ x j
   have K:e*j<=(Z a-2)*e:=by rw[gO];exact ef _ O
   have n:dC a^j*aA z<=2^(e*j)*2^t:=mn F<|bQ v p;rw[<-lI]at n;exact uA n<|Re T O
 .rw[eN _ (by rw[y8];omega)];exact iA T
noncomputable def gI:V (V D×G)->Rx
 |[]=>1
 |x::l=>pk (lx x.1) (af x.2)*gI l
noncomputable def oz:V (Rx×G)->Rx
 |[]=>1
 |x::l=>pk x.1 (af x.2)*oz l
def aco:∀l m,gI (l++m)=gI l*gI m
 |[],m=>by rw[sA,gI,one_mul]
 |x::l,m=>by rw[lY,gI,gI,aco l m,mul_assoc]
def acp:∀l m,oz (l++m)=oz l*oz m
 |[],m=>by rw[sA,oz,one_mul]
 |x::l,m=>by rw[lY,oz,oz,acp l m,mul_assoc]
def acq:∀l:V (V D×G),gI l=oz (l.map λp=>(lx p.1,p.2))
 |[]=>rfl
 |x::l=>by rw[gR,gI,oz,acq l]
def anJ{l m}(a:l.Perm m):gI l=gI m:=by
 induction a with
 |nil=>rfl
 |cons x _ d=>rw[gI,gI,d]
 |swap x y l=>rw[gI,gI,gI,gI];ac_rfl
 |trans _ _ i1 i2=>exact i1.trans i2
structure acr(a:V D)(fs:V (V D×G)):Prop where
 ok:∀x∈fs,x.1.getD (x.1.length-1) 0=1/\bl (lx x.1)/\1<=x.2
 prod:gI fs=lx (da a)
 AJ:fs.Pairwise (λx d=>x.1≠d.1)
 adj:gAd xh Ee fs (fs.length-1)
def acs(d:Y->Y)(a:Y):∀L,pk (pF d L) a=pF (λm=>d m*a) L
 |[]=>AG a
 |x::L=>by rw[pF,pF,tk,acs d a L,tj]
def Tl{L}(a:FL L)(d:Y->Y):Mo (pF d L):=uS a.mo
def acu{L:V (Rx×Y)}(a:FL L):∀(k n:Y),oz (nb L k n)=pF (λm=>if n<=m/\m<n+k then m else 0) L
 |0,n=>by rw[nb,oz];exact(Lp λx _=>w O).symm
 |k+1,n=>by
  have g:oz (if 1<sz (pF (kP n) L)then[(pF (kP n) L,(n:G))]else[])=pk (pF (kP n) L) n:=by
   split
   .rw[oz,oz,mul_one,b6]
   .rename_i i;have d:=Tl a<|kP n;have:=eO d.ne;rw[d.unit O,AG,oz]
  rw[nb,acp,g,acu a k<|n+1,acs,<-AK];refine wM λx _=>?_
  unfold kP;by_cases e:x.2=n
  .rw[ao e,w O,ao O];omega
  .rw[w e];by_cases f:n+1<=x.2/\x.2<n+1+k
   .rw[ao f,ao O];omega
   .rw[w f,w O];omega
def Tm{L:V (Rx×Y)}:∀{k n:Y}{d:Rx×G},d∈nb L k n->∃m:Y,n<=m/\d=(pF (kP m) L,(m:G))/\1<sz (pF (kP m) L)
 |0,_,_,a=>by cases a
 |k+1,n,d,a=>by
  rw[nb]at a;rcases aY.1 a with a|a
  .split at a
   .rename_i e;exact⟨n,aW _,iU.1 a,e⟩
   .cases a
  .let ⟨m,e,h2,f⟩:=Tm a;exact⟨m,O,h2,f⟩
def acv{L:V (Rx×Y)}:∀(k n:Y),(nb L k n).Pairwise (λx d=>x.2≠d.2)
 |0,_=>H5
 |k+1,n=>by
  rw[nb];refine w5.2 ⟨?_,acv k<|n+1,λx a d e=>?_⟩
  .split
   .exact RB _ _
   .exact H5
  .let ⟨m,f,h2,_⟩:=Tm e;split at a
   .rw[iU.1 a,h2];show(n:G)≠(m:G);omega
   .cases a
def anK{L}(a:FL L) m:Co (pF (kP m) L) (bt<|pF (kP m) L):=by
 refine Du (Tl a _).ne λQ d e f=>?_
 let ⟨x,hx,i,h2⟩:=yz d e;have g:kP m x.2=1:=by have:=G6 m x.2;omega
 exact a.G3 (G6 m) hx g<|dvd_trans (d.assoc (a.fI x hx) h2) f
def anL{a}(d:Co a (bt a)){Q}(l:2<=sz Q):¬Q*Q∣a:=λ⟨w,e⟩=>by
 have f:Q∣a:=⟨w*Q,by rw[e];ac_rfl⟩;have g:Q∣bt a:=by rw[e,uR,uR];refine dvd_add ⟨bt w*Q,fq⟩ ?_;rw[mul_add];exact dvd_add ⟨w*bt Q,fq⟩ ⟨w*bt Q,fq⟩
 let ⟨U,V,i⟩:=d;have k:Q∣1:=by rw[<-i];exact dvd_add (dI f _)<|dI g _
 have:=dvd_one k;omega
def Nd{u:V D}:∀{l:V (V D)},u∈l->lx u∣nk l
 |v::l,a=>by
  rw[nk];rcases bX.1 a with rfl|a
  .exact dvd_mul_right _ _
  .exact dI (Nd a) _
def acw:∀{l:V (V D)},(∀u∈l,bl (lx u))->(∀Q:Rx,2<=sz Q->¬Q*Q∣nk l)->l.Pairwise (·≠·)
 |[],_,_=>H5
 |v::l,d,f=>by refine jr.2 ⟨λu a e=>?_,acw (λu a=>d u<|by simp[a]) λQ g i=>f Q g<|dI i _⟩;subst e;exact f (lx v) (d v ax).1<|wL (dvd_refl _)<|Nd a
def acx(m:G):∀l:V (V D),gI (l.map λu=>(u,m))=pk (nk l) (af m)
 |[]=>(AG _).symm
 |u::l=>by rw[gR,gI,nk,tk,acx m l]
def fw(ir:V D->V (V D))(a:V (V D×G)):V (V D×G):=a.flatMap λp=>(ir p.1).map λu=>(u,p.2)
def acy{ir:V D->V (V D)}:∀{a:V (V D×G)},(∀p∈a,nk (ir p.1)=lx p.1)->gI (fw ir a)=gI a
 |[],_=>rfl
 |p::a,d=>by rw[fw,kD,aco,acx,d p ax,gI];exact a6 _ (acy λq e=>d q<|by simp[e])
def acz:∀{l:V (V D×G)},(∀x∈l,bl (lx x.1)/\1<=x.2)->gI l≠0/\Z l+1<=sz (gI l)
 |[],_=>⟨pj,by rw[gI,qF];exact aW _⟩
 |x::l,a=>by
  let ⟨i1,i2⟩:=acz (l:=l) λy hy=>a y tq
  let ⟨f,h2⟩:=a x ax;have g:=Rg f.1<|af x.2;have d:pk (lx x.1) (af x.2)≠0:=λe=>by rw[e,kh]at g;omega
  have:=dK d i1;rw[gI];exact⟨o6 d i1,Ls⟩
def acA{x:V D×G}:∀{l:V (V D×G)},x∈l->1<=x.2->lx x.1∣gI l
 |f::l,a,d=>by
  rw[gI];rcases bX.1 a with rfl|a
  .obtain⟨n,e⟩:∃n,af x.2=n+1:=⟨af x.2-1,O⟩;rw[e];exact kN (dvd_mul_left _ _) _
  .exact dI (acA a d) _
def Tn a e:m7 a e= -m7 e a:=by
 unfold m7;by_cases d:a<e
 .rw[ao d,w<|Rat.not_lt.2<|Rat.le_of_lt d,ao d]
 .rw[w d];by_cases h2:e<a
  .rw[ao h2,ao h2];rfl
  .rw[w h2,w h2,w d];rfl
def acB(a d:V D):∀i,pN a d i= -pN d a i
 |0=>rfl
 |i+1=>by
  rw[pN,pN,Tn (E d i 0)<|E a i 0,acB a d i];generalize m7 (E a i 0) (E d i 0)=g;by_cases f:g=0
  .rw[w (λe=>e f),w<|λe=>e O]
  .rw[ao f,ao O];omega
def anM a d:iM a d= -iM d a:=by
 unfold iM;by_cases h:Z a=Z d
 .rw[w (λe=>e h),w<|λe=>e h.symm,acB,h]
 .rw[ao h,ao<|λe=>h e.symm,anq]
def acC x a:Ee x a= -Ee a x:=anM _ _
structure nl(a:V D):Prop where
 can:bF a
 ne:a≠[]
 l9:a.length<=9
 hA:Ht (2^1500) (lx a)
 sz:∃c e h:Y,CD c (2^h) (lx<|da a)/\c<=2^e/\e<=600/\(a.length-2)*e+(h+12)<=191
section
variable{a:V D}
def nl.mo(d:nl a):Mo (lx<|da a):=YC d.can d.ne
def nl.H9(d:nl a):Rx.sz (lx<|da a)=Z a:=by rw[fj (po a),AL d.can]
def nl.div(f:nl a){g}(l:Mo g)(m:g∣lx (da a)):∃d e t,CD d (2^t) g/\d<=2^e/\e<=600/\(Z a-2)*e+t<=191:=by let ⟨c,e,k,i,h2,n,o⟩:=f.sz;let ⟨d,_,d2,d3⟩:=i.div f.mo l m;refine⟨d,e,k+12,d3.le ?_,bQ (uE i.1 d2) h2,n,o⟩;rw[f.H9];have p:=f.l9;have q:2^(Z a-1)<=2^8:=fh T O;have s:Z a*2^k<=9*2^k:=ef _ p;have u:=mn q s;rw[lI];omega
def nl.ht(g:nl a){f}(i:Mo f)(k:f∣lx (da a)):Ht (2^600) f:=by let ⟨d,e,t,l,h2,m,n⟩:=g.div i k;exact l.ht (bQ h2<|Ly 600 m)<|Ly 600 O
def nl.qs(e:nl a){d}(f:Mo d)(g:d∣lx (da a)) i:QS 20 (d i):=(e.ht f g).qs (mB (t:=600) O) i
def acD{q}(d:bF q)(e:Mo (lx q)):E q (Z q-1) 0=1:=by have:=e;rw[Mo,fj d]at this;exact this
def anN{q}(d:E q (Z q-1) 0=1):bF q/\Mo (lx q):=by have e:bF q:= .inr (by rw[d];decide);exact⟨e,by rw[Mo,fj e];exact d⟩
def nl.irH(f:nl a){q}(k:bF q)(g:Mo (lx q))(l:lx q∣lx (da a))(m:2<=Z q)(n:Co (lx q) (bt<|lx q)):iL q/\∀i,QS 20 (E q i 0):=by
 have s:Z q<=Z a:=by have:=iK l f.mo.ne;rwa[fj k,f.H9]at this
 have u:=f.l9;let ⟨d,e,t,o,p,v,x⟩:=f.div g l;have B:(Z q-2)*e<=(Z a-2)*e:=ef _ O;exact⟨⟨acD k g,m,O,n,λi=>anI o (acD k g) p (aW _) O i⟩,λi=>f.qs g l i⟩
def anP{L}{m}(d:1<=m):pF (kP m) L∣pF id L:=by
 have e:pF id L=pF (λk=>(k-kP m k)+kP m k) L:=wM λx _=>by show x.2=_;unfold kP;split<;>omega
 rw[e,AK];exact dvd_mul_left _ _
def nl.anQ(H:nl a){ir:V D->V (V D)}(hI:∀q,iL q->(∀i,QS 20 (E q i 0))->(∀u∈ir q,E u (Z u-1) 0=1/\bF u/\Mo (lx u)/\bl (lx u))/\nk (ir q)=lx q){L}(F:FL L)(hF:pF id L=lx (da a)){d}(P:d.map (λp=>(lx p.1,p.2))=nb L (Z a) 1)(hq:∀p∈d,bF p.1):
  (∀p∈d,iL p.1/\(∀i,QS 20 (E p.1 i 0))/\1<=p.2)/\Z (fw ir d)<=8/\(∀x∈fw ir d,Ef 20 x)/\(∀x∈fw ir d,E x.1 (Z x.1-1) 0=1/\bl (lx x.1)/\1<=x.2)/\gI (fw ir d)=lx (da a)/\(fw ir d).Pairwise (λx l=>x.1≠l.1):=by
 have C:∀p∈d,∃m:Y,1<=m/\lx p.1=pF (kP m) L/\p.2=(m:G)/\2<=Z p.1:=λp s=>by
  have X:(lx p.1,p.2)∈nb L (Z a) 1:=by rw[<-P];exact To (f:=λp:V D×G=>(lx p.1,p.2)) s
  let ⟨m,m1,K,c⟩:=Tm X;let ⟨e1,e2⟩:=Prod.mk.inj K;refine⟨m,m1,e1,e2,?_⟩;rw[<-e1,fj<|hq p s]at c;exact c
 have g:∀p∈d,iL p.1/\(∀i,QS 20 (E p.1 i 0))/\1<=p.2:=λp s=>by
  let ⟨m,m1,K,c,m4⟩:=C p s;have hm:Mo (lx p.1):=by rw[K];exact Tl F _
  let ⟨i1,i2⟩:=H.irH (hq p s) hm (by rw[K,<-hF];exact anP m1) m4 (by rw[K];exact anK F m);exact⟨i1,i2,O⟩
 have N:∀x∈fw ir d,∃p∈d,x.1∈ir p.1/\x.2=p.2:=λx t=>by let ⟨p,s,t⟩:=iw.1 t;obtain⟨u,b,rfl⟩:=je.1 t;exact⟨p,s,b,J⟩
 have U:∀x∈fw ir d,E x.1 (Z x.1-1) 0=1/\bl (lx x.1)/\1<=x.2:=λx t=>by let ⟨p,s,X,I⟩:=N x t;let ⟨i1,_,i2,i3⟩:=(hI p.1 (g p s).1 (g p s).2.1).1 _ X;exact⟨i1,i3,by rw[I];exact(g p s).2.2⟩
 have B:gI (fw ir d)=lx (da a):=by
  rw[acy λp s=>(hI p.1 (g p s).1 (g p s).2.1).2,acq,P,acu F,<-hF];refine wM λx t=>?_
  have X:=F.pos x t;have I:=Rh F t;rw[hF,H.H9]at I;exact ao O
 have j:Z (fw ir d)<=8:=by have:=(acz λx t=>(U x t).2).2;rw[B,H.H9]at this;have:=H.l9;omega
 have r:(fw ir d).Pairwise (λx l=>x.1≠l.1):=by
  have S:d.Pairwise (λx l=>x.2≠l.2):=by have:=acv (L:=L) (Z a) 1;rw[<-P]at this;exact(DE (R:=λx l:Rx×G=>x.2≠l.2)).1 this
  have go:∀{o:V (V D×G)},(∀p∈o,p∈d)->o.Pairwise (λx l=>x.2≠l.2)->(fw ir o).Pairwise (λx l=>x.1≠l.1):=by
   intro o;induction o with
   |nil=>intro _ _;exact H5
   |cons p o ih=>
    intro P s
    let ⟨p1,p2⟩:=jr.1 s
    have k:=P p ax
    refine w5.2 ⟨?_,ih (λq hq=>P q<|by simp[hq]) p2,λx t l hy e=>?_⟩
    .let ⟨i1,i2⟩:=hI p.1 (g p k).1 (g p k).2.1;refine DE.2<|acw (λu b=>(i1 u b).2.2.2) λQ hQ w=>?_;rw[i2]at w;exact anL (g p k).1.co hQ w
    .obtain⟨u,b,rfl⟩:=je.1 t;let ⟨q,z,T⟩:=iw.1 hy;obtain⟨v,hv,rfl⟩:=je.1 T;have e:u=v:=e;subst e;have W:=P q (by simp[z]);let ⟨m,m1,K,c,_⟩:=C p k;let ⟨n,n1,n2,n3,_⟩:=C q W;let ⟨i1,i2⟩:=hI p.1 (g p k).1 (g p k).2.1;let ⟨j1,j2⟩:=hI q.1 (g q W).1 (g q W).2.1;let ⟨_,_,um,M⟩:=i1 u b;have d1:lx u∣pF (kP m) L:=by rw[<-K,<-i2];exact Nd b
     have d2:lx u∣pF (kP n) L:=by rw[<-n2,<-j2];exact Nd hv
     let ⟨x,x1,x2,x3⟩:=yz M d1;let ⟨l,y1,y2,y3⟩:=yz M d2;have ex:=M.eq (F.fI x x1) um (F.mo x x1) x3;have ey:=M.eq (F.fI l y1) um (F.mo l y1) y3;have kx:x.2=m:=Q3.1 (by have:=G6 m x.2;omega);have ky:l.2=n:=Q3.1 (by have:=G6 n l.2;omega);by_cases A:x=l
     .refine p1 q z ?_;rw[c,n3,<-kx,<-ky,A]
     .exact FL.Q2 F.AJ x1 y1 A (by rw[<-ex,<-ey])
  exact go (λp s=>s) S
 refine⟨g,j,λx t=>?_,U,B,r⟩
 .let ⟨X,I,h3⟩:=U x t;let ⟨h4,h5⟩:=anN X;have w:lx x.1∣lx (da a):=by rw[<-B];exact acA t h3
  have hl:=iK w H.mo.ne;rw[fj h4,H.H9]at hl;have:=H.l9;exact⟨O,λi=>H.qs h5 w i⟩
end
end Go.El
namespace Go.El
open Go Go.Proofs Go.RowKit
def acE{L:V (Rx×Y)}:∀k n,Z (nb L k n)<=k
 |0,_=>aW _
 |k+1,n=>by
  have:=acE (L:=L) k<|n+1;rw[nb,ix];split
  .rw[rG];omega
  .rw[rz];omega
open Rx
def Tp{a}(m:Mo a)(i:dk a)(n:2<=sz a)(k:∀u v:Rx,Mo u->Mo v->dk u->dk v->a=u*v->2<=sz u->sz u<=sz v->False):bl a:=by
 refine⟨n,λA B e=>eX λl=>?_⟩;let ⟨u,v,d,f,g,o,p⟩:=RT m e (λe=>l<|.inl e)<|λe=>l<|.inr e;rw[g]at i;let ⟨i1,i2⟩:=Ma d f i;rcases Nat.le_total (sz u) (sz v)with hl|hl
 .exact k u v d f i1 i2 g o hl
 .exact k v u f d i2 i1 (g.trans<|Rx.mul_comm u v) p hl
def Bo l i:lx (l.map iQ) i=((E l i 0:G):D):=by rw[gC,aM,iV,aM];cases l[i]? <;>rfl
def Tq(l:V G):dk (lx<|l.map iQ):=dk.of λi=>⟨_,Bo l i⟩
def anR l i:nu (lx<|l.map iQ) i=E l i 0:=by show(lx (l.map iQ) i).num=_;rw[Bo];rfl
def acF{l}{n}(a:Z l=n+1)(d:E l n 0=1):bF (l.map iQ):=by refine .inr ?_;rw[cR,a,eh];have:=Bo l n;rw[gC]at this;rw[this,d];decide
def y'{l}{n}(a:Z l=n+1)(d:E l n 0=1):sz (lx<|l.map iQ)=n+1:=by rw[fj (acF a d),cR,a]
def Ts{l}{n}(d:Z l=n+1)(a:E l n 0=1):Mo (lx<|l.map iQ):=by show lx (l.map iQ) (sz (lx<|l.map iQ)-1)=1;rw[y' d a,eh,Bo,a];rfl
def za{a d m}(f:m=a*d)(g:m≠0):aA a<=aA m:=by
 rw[f,qv];have:d≠0:=λe=>g (by rw[f,e,gy])
 exact ye _ O
def zb{a}(d:Mo a){n}(e:sz a=n+1):nu a n=1:=by show(a n).num=1;rw[d.at e];rfl
section
variable{l:V G}{u v:Rx}
def xi(d:dk u)(f:dk v)(e:lx (l.map iQ)=u*v) i:E l i 0=sm (λa=>nu u a*nu v (i-a)) (i+1):=by rw[<-anR,e,Hk d f,PS.e9]
end
def Tt{l}{d f}(q:l=[d,f,1])(s:∀a g:G,d=a*g->f=a+g->False):bl (lx<|l.map iQ):=by subst q;refine Tp (Ts (n:=2) J J) (Tq _) (by rw[y' (n:=2) J J];decide) ?_;intro u v i k m o e K s2;have t:=dK i.ne k.ne;rw[<-e,y' (n:=2) J J]at t;have x:sz u=1+1:=O;have B:sz v=1+1:=O;have C:=zb i x;have F:=zb k B;have p:=xi m o e 0;have H:=xi m o e 1;simp[sm,C,F]at p H;exact s (nu u 0) (nu v 0) p O
def acG{l}{g i k}(B:l=[g,i,k,1])(F:∀a m o:G,g=a*o->i=a*m+o->k=a+m->False):bl (lx<|l.map iQ):=by subst B;refine Tp (Ts (n:=3) J J) (Tq _) (by rw[y' (n:=3) J J];decide) ?_;intro u v p q d f e U s2;have C:=dK p.ne q.ne;rw[<-e,y' (n:=3) J J]at C;have H:sz u=1+1:=O;have K:sz v=2+1:=O;have L:=zb p H;have P:=zb q K;have Q:nu u 2=0:=yF O;have s:=xi d f e 0;have t:=xi d f e 1;have x:=xi d f e 2;simp[sm,L,P,Q]at s t x;exact F (nu u 0) (nu v 1) (nu v 0) s t x
def acH{l}{o p q s}(U:l=[o,p,q,s,1])(W:∀a f g d:G,o=a*d->p=a*g+d->q=a*f+g->s=a+f->False)(h':∀a f g d:G,o=f*d->p=f*g+a*d->q=f+a*g+d->s=a+g->False):bl (lx<|l.map iQ):=by
 subst U;refine Tp (Ts (n:=4) J J) (Tq _) (by rw[y' (n:=4) J J];decide) ?_;intro u v t x i k e w s2;have X:=dK t.ne x.ne;rw[<-e,y' (n:=4) J J]at X;have m:=xi i k e 0;have B:=xi i k e 1;have C:=xi i k e 2;have F:=xi i k e 3;by_cases H:sz u=1+1
 .have K:sz v=3+1:=by omega
  have j:=zb t H;have L:=zb x K;have P:nu u 2=0:=yF O;have Q:nu u 3=0:=yF O;simp[sm,j,L,P,Q]at m B C F;exact W (nu u 0) (nu v 2) (nu v 1) (nu v 0) m B C F
 .have H:sz u=2+1:=by omega
  have K:sz v=2+1:=O;have P:=zb t H;have r:=zb x K;have Q:nu u 3=0:=yF O;have L:nu v 3=0:=yF O;simp[sm,P,r,Q,L]at m B C F;exact h' (nu u 1) (nu u 0) (nu v 1) (nu v 0) m O O O
def acI{a k}(d:a*a=k)(f:k<36):∃n:Y,n<=5/\(n:G)*n=k:=by
 refine⟨aA a,?_,by rw[anS a];exact d⟩;refine eX λg=>?_
 have e:6<=aA a:=O;have:=mn e e;have i:((aA a*aA a:Y):G)=k:=by rw[eY,anS a];exact d
 omega
def anT:bl (lx<|([-2,0,1]:V G).map iQ):=Tt J λa b d e=>by have f:=za d T;have:a= -2\/a= -1\/a=0\/a=1\/a=2:=O;rcases this with rfl|rfl|rfl|rfl|rfl<;>omega
def anU:bl (lx<|([1,0,1]:V G).map iQ):=Tt J λa b d e=>by have f:=za d T;have:a= -1\/a=0\/a=1:=O;rcases this with rfl|rfl|rfl<;>omega
def anV:bl (lx<|([-2,0,0,1]:V G).map iQ):=acG J λa b c d e f=>by have g:=za d T;have:a= -2\/a= -1\/a=0\/a=1\/a=2:=O;rcases this with rfl|rfl|rfl|rfl|rfl<;>omega
def anW:bl (lx<|([1,1,1]:V G).map iQ):=Tt J λa b d e=>by have f:=za d T;have:a= -1\/a=0\/a=1:=O;rcases this with rfl|rfl|rfl<;>omega
def anX:bl (lx<|([-1,-1,0,1]:V G).map iQ):=acG J λa b c d e f=>by have g:=za d T;have:a= -1\/a=0\/a=1:=O;rcases this with rfl|rfl|rfl<;>omega
def acJ{a f g d m}(i:1=f*d)(l:m=f+a*g+d)(q:0=a+g)(s:m=0\/m= -10):False:=by
 have t:=za i T;have e:g= -a:=O;subst e;rw[Int.mul_neg]at l;have:f= -1\/f=0\/f=1:=O;rcases this with rfl|rfl|rfl
 .have:d= -1:=by omega
  subst this;obtain⟨n,o,p⟩:=acI (a:=a) (k:= -2-m) O O;have:n=0\/n=1\/n=2\/n=3\/n=4\/n=5:=O;rcases this with rfl|rfl|rfl|rfl|rfl|rfl<;>omega
 .omega
 .have:d=1:=by omega
  subst this;obtain⟨n,o,p⟩:=acI (a:=a) (k:=2-m) O O;have:n=0\/n=1\/n=2\/n=3\/n=4\/n=5:=O;rcases this with rfl|rfl|rfl|rfl|rfl|rfl<;>omega
def anY:bl (lx<|([1,0,0,0,1]:V G).map iQ):=acH J (λa b c d e i f g=>by have k:=za e T;have:a= -1\/a=0\/a=1:=O;rcases this with rfl|rfl|rfl<;>omega) λa b c d e i f g=>acJ e f g<|.inl J
def anZ:bl (lx<|([1,0,-10,0,1]:V G).map iQ):=acH J (λa b c d e i f g=>by have k:=za e T;have:a= -1\/a=0\/a=1:=O;rcases this with rfl|rfl|rfl<;>omega) λa b c d e i f g=>acJ e f g<|.inr J
def an0:bl (lx<|([-3,1]:V G).map iQ):=anm<|y' (n:=1) J J
def an1{e:Type}{l}{i}(d:e)(a:i<Z l):E l i d∈l:=by rw[aM,cK a];exact si a
def acK(l:V (G×G×G))(a:Y)(g:a<=1000)(n:∀x∈l,lO x):r z 13 [N RW l,y a] (N .q<|uW l a):=by
 refine aJ Tryz.func13<|ui 0 J λk=>?_;have k:Z l*3<=140737488355328:=k;refine I J<|R<|fM .q [] J J (j J<|M<|I J ?_);refine ay<|bf (α:=Y) (λi=>⟨[(0,N RW l),(1,y a),(5,.c<|.X 1000000),(6,y i)],[(1000000,.vec 44 .q<|(h i l).map py)],3,[]⟩) (λi=>i<=Z l/\i<=a+1) (λi=>Z l-i) 0 ⟨a8 _,a8 _⟩ aU ?_;rintro i ⟨s,o⟩;refine M<|R<|rg 12 J J (λd=>?_)<|λd=>?_
 .have d:i<Z l:=by have d:(i:G)<(Z l:G):=aT d;omega
  refine j J<|c J (λh2=>?_)<|λh2=>?_
  .have h2:i<=a:=by have h2:(i:G)<=a:=aT h2;omega
   have e:=LG py (0,0,0) l i d;have p:=n (E l i (0,0,0))<|an1 _ d;have m:=akm (E l i (0,0,0)) p;rw[show E l i (0,0,0)=E l (af (i:G)) RW.dA by rw[b6]]at m e;refine aD<|M<|ay<|cA<|rc J J m (rl .q [py (E l (af (i:G)) RW.dA)] J J (ra J J J J J J J J J ?_ ?_<|j J<|bH<|rt J<|aS (i+1) ⟨O,O⟩ wR<|Wk.trans (wk (st':=⟨[(0,N RW l),(1,y a),(5,.c<|.X 4007000),(6,y ((i+1:Y):G))],[(4007000,.vec 44 .q<|(h (i+1) l).map py)],6,[]⟩) ⟨sR J,sR J,sR J,sE J ?_,A⟩ ⟨bE J ?_,A⟩)<|Wk.trans (gw 1000000 4007000 J J J) aU)) (hp:=?_)
   .show(_+1+(_+1)/4+192)*64<=_;simp only[cR,fQ];omega
   .show(_+1)*4<=_;simp only[cR,fQ];omega
   .rfl
   .rw[e]
   .simp only[Pr.an,Pr.h,num,gf,true_and,and_true];first|done|omega
  .have h2:¬i<=a:=by have h2:¬(i:G)<=a:=a4 h2;omega
   have f:=AM ((h i l).map py) DB;rw[show eT ((h i l).map py)=uW l a by rw[uW,(O:i=a+1)]]at f;exact bh<|aI<|c8 1000000 J J J<|bw J J f J<|cJ J
 .have d:i=Z l:=by have d:¬(i:G)<(Z l:G):=a4 d;omega
  have f:=AM ((h i l).map py) DB;rw[show eT ((h i l).map py)=uW l a by rw[uW,iO O,iO O]]at f;refine j J<|c J (λh2=>oZ)<|λ_=>?_;exact bh<|aI<|c8 1000000 J J J<|bw J J f J<|cJ J
def acL{x}(a:lO x):lO (wP x):=⟨a.1,a.2.1,gK 0,(by decide:(0:G)<=255)⟩
def an2(l:V (G×G×G))(a:Y)(f:a<=1000)(k:∀x∈l,lO x):r z 28 [N RW l,y a] (N .q<|wQ l a):=by
 refine aJ Tryz.func28<|ui 0 J λg=>?_;have g:Z l*3<=140737488355328:=g;refine I J<|R<|fM RW [] J J (j J<|M<|I J ?_);refine ay<|bf (α:=Y) (λi=>⟨[(0,N RW l),(1,y a),(5,.c<|.X 1000000),(6,y i)],[(1000000,.vec 57 RW<|(h i l).map wP)],3,[]⟩) (λi=>i<=Z l) (λi=>Z l-i) 0 (a8 _) aU ?_;intro i s;refine M<|I J<|c J (λd=>?_)<|λd=>?_
 .have d:i<Z l:=by have d:(i:G)<(Z l:G):=aT d;omega
  have e:=LG wP (0,0,0) l i d;rw[show E l i (0,0,0)=E l (af (i:G)) RW.dA by rw[b6]]at e;refine aD<|M<|ay<|cA<|rl RW [wP (E l (af (i:G)) RW.dA)] J J (ra J J J J J J J J J ?_ ?_<|j J ?_) (hp:=aF)
  .show(_+1+(_+1)/4+192)*3<=_;simp only[cR,fQ];omega
  .show(_+1)*3<=_;simp only[cR,fQ];omega
  .refine bH (rt J (hp:=aF)<|aS (i+1) d wR<|Wk.trans (wk (st':=⟨[(0,N RW l),(1,y a),(5,.c<|.X 4013000),(6,y ((i+1:Y):G))],[(4013000,.vec 57 RW<|(h (i+1) l).map wP)],6,[]⟩) ⟨sR J,sR J,sR J,sE J ?_,A⟩ ⟨bE J ?_,A⟩)<|Wk.trans (gw 1000000 4013000 J J J) aU)
   .rfl
   .rw[e]
 .have d:i=Z l:=by have d:¬(i:G)<(Z l:G):=a4 d;omega
  subst d;rw[fR];have m:=acK (l.map wP) a f (λx n=>by obtain⟨o,p,rfl⟩:=je.1 n;exact acL<|k o p);exact bh<|aI<|c8 1000000 J J J<|bw J J m J<|cJ J
def an3{a}(p:bF a)(m:a≠[]){g B}(v:0<g)(n:∀i,∃d:G,aA d<=B/\((g:Y):D)*E a i 0=(d:D)):∃o,o<=B/\CD o B (lx<|da a):=by
 have k:((g:Y):D)≠0:=wN O;let ⟨w,q,f⟩:=n<|Z a-1;have s:=p.ne m;have t:w≠0:=λe=>by
  rw[e]at f;rcases yw.1 f with e|e
  .exact k e
  .exact s e
 refine⟨aA w,q,⟨O,λi=>?_⟩⟩;let ⟨d,u,h2⟩:=n i;rw[uT m,fZ,gC];rcases Int.lt_or_gt_of_ne t with l|l
 .refine⟨-d,O,?_⟩;have e:((aA w:Y):D)= -(w:D):=by rw[<-qK,(O:((aA w:Y):G)= -w),Hc]
  rw[e,Hc,<-h2,<-f];grind
 .refine⟨d,u,?_⟩;have e:((aA w:Y):D)=(w:D):=by rw[<-qK,(O:((aA w:Y):G)=w)]
  rw[e,<-h2,<-f];grind
def an4{a}(g:bF a)(l:a≠[])(o:Z a<=9){D}(p:0<D)(f:D<=2^22)(n:∀i,∃e:G,aA e<=2^22/\((D:Y):Rat)*E a i 0=(e:Rat)):nl a:=by
 have d:∀{m:Y},m<=2^22->m<=2^1500:=λh=>bQ h<|Rx.Ly 1500 (k:=22) T
 let ⟨c,c1,q⟩:=an3 g l p n;refine⟨g,l,o,⟨(D:G),O,d f,λi=>?_⟩,⟨c,22,22,q,c1,T,O⟩⟩;let ⟨e,s,h2⟩:=n i;exact⟨e,d s,h2⟩
end Go.El
namespace Go.El
open Go Go.Proofs Go.RowKit Fx
def Tu{P:Y->Prop}(a:∃n,P n):∃n,P n/\∀k,k<n->¬P k:=by
 let ⟨n,d⟩:=a;induction n using Nat.strongRecOn with
 |_ n f=>
  by_cases e:∃k,k<n/\P k
  .let ⟨k,g,h2⟩:=e;exact f k g h2
  .exact⟨n,d,λk i l=>e ⟨k,i,l⟩⟩
section
variable{p:Y}
def an5(H:bp p)(a B:Fx p) i:pk (a-B) (p^i)=pk a (p^i)-pk B (p^i):=
 Dp (by rw[<-LS H,kM])
def acM(H:bp p){Q:Fx p}(d:bl Q){i m}(a:Q∣pk X (p^(i+m))-pk X (p^i)):Q∣pk X (p^m)-X:=by rw[lI,gO,tj,<-an5 H]at a;exact M6 H d _ a
def acN(H:bp p)(i:Y):∀a:V G,ev (a.map<|K (p:=p)) (pk X<|p^i)=pk (fx<|a++[1]) (p^i)
 |[]=>by rw[sA,AT,AG];rfl
 |d::a=>by rw[lY,Hp,LS H,RH H,tk,<-acN H i a];rfl
def an6(H:bp p){q}(g:Mon p q)(l:bl (fx q:Fx p)):(fx q:Fx p)∣pk X (p^(Z q-1))-X:=by
 have A:sz (fx q:Fx p)=Z q:=cO g.c;have D:2<=Z q:=by have:=l.1;omega
 have v:=H.hp.1;have ex:∃m,0<m/\(fx q:Fx p)∣pk X (p^m)-X:=by
  have d:=λi=>xe H g.c g.ne<|pk X<|p^i
  have o:∀i r,af (E (gX H q<|pk X<|p^i) r 0)<p:=λi r=>by have:=((d i).1.1 r);omega
  let ⟨i,j,I,_,x⟩:=LO (p^(Z q-1)) (p^(Z q-1)+1) (λi=>code p (λr=>af<|E (gX H q<|pk X<|p^i) r 0)<|Z q-1) (dJ _) λi _=>Hn _ _ λr _=>o i r
  have B:=RA _ _ _ (λr _=>o i r) (λr _=>o j r) x;have e:gX H q (pk X<|p^i)=gX H q (pk X<|p^j):=by
   refine tx (p:=p) (d i).1 (d j).1<|mk_eq.2<|Cg.of λr=>?_;by_cases s:r<Z q-1
   .have J:=(d i).1.1 r;have M:=(d j).1.1 r;have N:=B r s;show E (gX H q<|pk X<|p^i) r 0%_=E (gX H q<|pk X<|p^j) r 0%_;have:E (gX H q<|pk X<|p^i) r 0=E (gX H q<|pk X<|p^j) r 0:=O;rw[this]
   .have R:=(d i).2.1;have S:=(d j).2.1;show E (gX H q<|pk X<|p^i) r 0%_=E (gX H q<|pk X<|p^j) r 0%_;rw[eN _ O,eN _ O]
  obtain⟨m,rfl⟩:∃m,j=i+m:=⟨j-i,O⟩;refine⟨m,O,acM H l (i:=i) ?_⟩;have t:=(d i).2.2;rw[e]at t;exact m9<|og (m9 t) (d<|i+m).2.2
 let ⟨m,⟨C,m1⟩,F⟩:=Tu ex;have L:¬m+1<sz (fx q:Fx p):=λh=>ZA H l C h m1
 obtain⟨f,rfl⟩:∃f,q=f++[1]:=⟨q.dropLast,by
  have e:=Tv g.ne;have P:q.getLast g.ne=1:=by have:=g.one;rw[aM,cK O]at this;rw[an7];exact this
  rw[P]at e;exact e.symm⟩
 have s:Z (f++[(1:G)])=Z f+1:=ax;have Q:m<=Z f:=by
  refine eX λT=>?_
  refine roots H l (f.map<|K (p:=p)) ((cd m).map λi=>pk X<|p^i) bV (λy U=>?_) ?_
  .obtain⟨i,_,rfl⟩:=je.1 U;rw[acN H];obtain⟨k,W⟩:∃k,p^i=k+1:=⟨p^i-1,by have:=iA (n:=i) (O:0<p);omega⟩;rw[W,pk];exact dvd_mul_left _ _
  .refine DE.2<|LV ?_ Iw;intro a b V u w z;have u:=oI.1 u;obtain⟨k,rfl⟩:∃k,b=a+k:=⟨b-a,O⟩;exact F k O ⟨O,acM H l<|m9 z⟩
 rw[s];have:m=Z f:=O;rwa[this]at m1
end
def MD.mul{d e}{g K}(f:MD d g)(k:MD e K):MD (d+e) (g*K):=by
 refine⟨?_,λi l=>?_⟩
 .rw[PS.e9,wT (a:=d) O λi l m=>?_]
  .rw[(O:d+e-d=e),f.one,k.one];rfl
  .by_cases c:d<i
   .rw[f.z i c,mj]
   .rw[k.z _ O,gy]
 .rw[PS.e9,o0 λj n=>?_];by_cases c:d<j
  .rw[f.z j c,mj]
  .rw[k.z _ O,gy]
section
variable{p:Y}
def acO(H:bp p){f:V G}:∀{l:V (V G)},(∀a∈l,Co (fx f:Fx p) (fx a))->Co (fx f:Fx p) (fv l)
 |[],_=>⟨0,1,by rw[zero_mul,zero_add];exact one_mul 1⟩
 |a::l,d=>(d a ax).mul (acO H λe g=>d e<|by simp[g])
end
structure Eg(p k:Y)(f:V G)(l X:V (V G)):Prop where
 len:X.length=l.length
 ok:∀i,i<l.length->aH (X.getD i [])/\(X.getD i []).length=(l.getD i []).length/\(fx (X.getD i []):Fx p)=fx (l.getD i [])/\∀a,dt ((X.getD i []).getD a 0) ((p:G)^k)=(X.getD i []).getD a 0
 pr:Cg ((p:G)^k) (ps f) (oo X)
section
variable{p:Y}
def acP(H:bp p){F:Fx p}{d}(i:F≠0)(o:2<=sz F)(k:∀Q,bl Q->Q∣F->d+1<=sz Q)(s:sz F<=2*d):bl F:=by
 refine⟨o,λA B e=>?_⟩;have a:A≠0:=λf=>i (by rw[e,f,zero_mul])
 have g:B≠0:=λf=>i (by rw[e,f,mul_zero])
 have q:=dK H a g;have pA:=eO H.pos a;have t:=eO H.pos g;rw[<-e]at q;refine eX λl=>?_
 have u:sz A≠1:=λe=>l<|.inl e
 have v:sz B≠1:=λe=>l<|.inr e
 let ⟨Q,q1,m⟩:=rR H _ A (dJ _) O;let ⟨R,r1,n⟩:=rR H _ B (dJ _) O;have x:=k Q q1 (by rw[e];exact kN m B);have C:=k R r1 (by rw[e];exact dI n A);have K:=iK H m a;have L:=iK H n g;omega
def acQ(H:bp p){Q}(d:bl Q):∃q,Mon p q/\bl (fx q:Fx p)/\(fx q:Fx p)∣Q/\Q∣fx q/\Z q=sz Q:=by
 obtain⟨a,f,rfl⟩:=iY H.pos Q;have l:a≠[]:=λe=>d.ne H (by rw[e,jL])
 let ⟨m1,i,m,⟨c,n⟩,k⟩:=LY H f l;refine⟨kL p a,m1,⟨?_,λA B e=>?_⟩,m,⟨K c,n⟩,by rw[i,cO f]⟩
 .have:=d.1;rw[cO f]at this;rw[cO m1.c,i];exact this
 .rw[e,<-mul_assoc]at k;rcases d.2 _ _ k with h|h
  .let ⟨o,g⟩:=uN H h;exact .inl (wK H (B:=o*K (E a (Z a-1) 0))<|by rw[mul_assoc];exact g)
  .exact .inr h
structure Bp(p:Y)(f:V G)(d:Y):Prop where
 aH:Mon p f
 kS:pD (fx f:Fx p)
 low:∀Q,bl Q->Q∣(fx f:Fx p)->d+1<=sz Q
structure qU(p:Y)(f:V G)(d:Y):Prop where
 aH:Mon p f
 kS:pD (fx f:Fx p)
 Nf:∀Q,bl Q->Q∣(fx f:Fx p)->sz Q=d+1
def Bp.fI(H:bp p){f}{d}(a:Bp p f d)(e:2<=Z f)(g:Z f<=2*d):bl (fx f:Fx p):=
 acP H (a.aH.jM H) (by rw[cO a.aH.c];exact e) a.low (by rw[cO a.aH.c];exact g)
def qU.fI(H:bp p){f}{d}(a:qU p f d)(e:2<=Z f)(k:Z f<=d+1)(l:1<=d):bl (fx f:Fx p):=
 acP H (d:=d) (a.aH.jM H) (by rw[cO a.aH.c];exact e) (λQ g i=>by rw[a.Nf Q g i];exact aW _) (by rw[cO a.aH.c];omega)
def qU.ex(H:bp p){f}{d}(a:qU p f d)(g:2<=Z f):∃q,Mon p q/\bl (fx q:Fx p)/\(fx q:Fx p)∣fx f/\Z q=d+1:=by let ⟨Q,q1,e⟩:=rR H _ (fx f:Fx p) (dJ _) (by rw[cO a.aH.c];exact g);let ⟨q,r1,i,k,m,l⟩:=acQ H q1;exact⟨q,r1,i,dvd_trans k e,by rw[l,a.Nf Q q1 e]⟩
def Q8(H:bp p){f g}(d:Mon p f)(a:Mon p g):(aL f g p).1.length=Z f-(Z g-1):=by let ⟨_,_,_,_,_,h⟩:=lq H.hp H.le d.c.1 a.c a.ne;exact h
def sc(H:bp p){f g}(d:Mon p f)(a:Mon p g)(e:(fx g:Fx p)∣fx f):Mon p (aL f g p).1/\(fx f:Fx p)=fx (aL f g p).1*fx g/\(aL f g p).1.length+Z g=Z f+1/\Z g<=Z f:=by
 have i:Z g<=Z f:=by have:=iK H e<|d.jM H;rwa[cO a.c,cO d.c]at this
 have k:=a.pos;have:=Q8 H d a;exact⟨RI H d a i,yC H d.c a.c a.ne e,O,i⟩
def qU.parts(H:bp p){f g}{d}(a:qU p f d)(m:Mon p g)(i:(fx g:Fx p)∣fx f):qU p g d/\qU p (aL f g p).1 d:=by let ⟨q1,q2,n,o⟩:=sc H a.aH m i;have e:(fx (aL f g p).1:Fx p)∣fx f:=M7;exact⟨⟨m,a.kS.of_dvd i,λQ k l=>a.Nf Q k<|dvd_trans l i⟩,⟨q1,a.kS.of_dvd e,λQ k l=>a.Nf Q k<|dvd_trans l e⟩⟩
def tJ.app{f g}{l m}{F}(a:tJ p g l)(d:tJ p f m)(e:(fx F:Fx p)=fx f*fx g):tJ p F (l++m):=
 ⟨λx i=>(aY.1 i).elim (a.parts x)<|d.parts x,by rw[HZ,a.prod,d.prod,e,mul_comm]⟩
def Bp.step(H:bp p){f t s}{d}(a:Bp p f d)(d1:1<=d)(L:bs p s)(x:(fx f:Fx p)∣fx t-pk X (p^d))(e:(fx s:Fx p)=fx t-X):qU p (fH p f s) d/\Bp p (aL f (fH p f s) p).1 (d+1)/\(fx (fH p f s):Fx p)∣fx f:=by
 let ⟨m1,l,K,U,V,P⟩:=yJ H a.aH.c L a.aH.ne;let ⟨q1,q2,j,r⟩:=sc H a.aH m1 l;generalize fH p f s=g at*;generalize (aL f g p).1=W at*;have i:(fx W:Fx p)∣fx f:=M7;refine⟨⟨m1,a.kS.of_dvd l,λQ m k=>?_⟩,⟨q1,a.kS.of_dvd i,λQ m k=>?_⟩,l⟩
 .have b:=a.low Q m<|dvd_trans k l;have o:Q∣fx t-X:=by rw[<-e];exact dvd_trans k K
  have u:Q∣pk X (p^d)-X:=og (m9<|dvd_trans (dvd_trans k l) x) o;have B:¬d+1<sz Q:=λv=>ZA H m O v u
  omega
 .have b:=a.low Q m<|dvd_trans k i;refine eX λw=>?_
  let ⟨q,r1,C,F,y,z⟩:=acQ H m;have n:(fx q:Fx p)∣fx f:=dvd_trans F<|dvd_trans k i;have o:=an6 H r1 C;rw[(O:Z q-1=d)]at o;have u:(fx q:Fx p)∣fx s:=by rw[e];exact og (dvd_trans n x) o
  have B:(fx q:Fx p)∣fx g:=by rw[P];exact dvd_add (dI n U)<|dI u V
  exact a.kS _ C (by rw[q2];exact wL (dvd_trans F k) B)
structure qV(p:Y)(f a:V G):Prop where
 aH:Mon p a
 kS:pD (fx a:Fx p)
 iff:∀Q,bl Q->(Q∣(fx f:Fx p)↔Q∣fx a)
 len:a.length<=f.length
def qV.one(H:bp p){f}(a:Mon p f)(i:Z f<=1):qV p f f:=
 ⟨a,λQ d e=>by have g:=iK H e<|a.jM H;have k:=dK H (d.ne H)<|d.ne H;have l:=d.1;rw[cO a.c]at g;omega,λQ _=>Iff.rfl,aW _⟩
def qV.root(H:bp p){f d}(i:Mon p f)(k:2<=Z f)(l:bt (fx f:Fx p)=0)(a:qV p (lP p f<|jc p<|Z f) d):qV p f d:=by
 let ⟨s,m,t,u⟩:=ab6 H i k l;refine⟨a.aH,a.kS,λQ g=>?_,by have:=a.len;omega⟩;rw[<-a.iff Q g,m];refine⟨M6 H g p,λn=>?_⟩;obtain⟨q,o⟩:∃q,p=q+1:=⟨p-1,AW⟩;have e:pk (fx (lP p f<|jc p<|Z f):Fx p) p=pk (fx<|lP p f<|jc p<|Z f) (q+1):=by rw[<-o]
 rw[e];exact dI n _
def Tw(H:bp p){a d}(f:Mon p a)(g:Mon p d):Mon p (cH a d p)/\Z (cH a d p)+1=Z a+Z d:=by have k:=(mr H.pos a d);have o:=uY (p:=p) a d;have i:=dK H (f.jM H)<|g.jM H;rw[<-o,cO k,cO f.c,cO g.c]at i;have s:=f.pos;have t:=g.pos;refine⟨⟨k,λe=>by rw[e]at i;simp at i;omega,?_⟩,i⟩;have l:=(show aH a from⟨f.ne,f.one⟩).tz.mul (show aH d from⟨g.ne,g.one⟩).tz;have m:=(Dd a d (p:G)).at (Z a-1+(Z d-1));rw[l.one,H.one,cy]at m;have q:Z (cH a d p)-1=Z a-1+(Z d-1):=O;rw[q];have n:=k.1<|Z a-1+(Z d-1);rwa[gx n.1 n.2]at m
def qV.step(H:bp p){f m g rest x}(n:Mon p f)(h2:2<=Z f)(o:bs p m)(hD:(fx m:Fx p)=bt (fx f))(B:m≠[])(eg:g=fH p f m)(l:qV p g rest)(ec:x=fH p (aL f g p).1 rest):Z g<Z f/\qV p f (cH (aL f g p).1 (aL rest x p).1 p):=by
 let ⟨m1,X,b,U,V,j⟩:=yJ H n.c o n.ne;rw[<-eg]at m1 X b j;have I:Z g<=Z f-1:=by
  have C:(fx m:Fx p)≠0:=λe=>by rw[<-jL]at e;exact B<|tx o (qA H.pos) e
  have J:=iK H b C;have F:=Lo H (fx f:Fx p);rw[<-hD,cO n.c]at F;rw[cO m1.c]at J;omega
 let ⟨q1,r,R,Y⟩:=sc H n m1 X;have K:pD (fx (aL f g p).1:Fx p):=ZB H (n.jM H) r (by rw[<-hD];exact j);generalize (aL f g p).1=part at*;let ⟨L,y,z,S,T,A⟩:=yJ H q1.c l.aH.c q1.ne;rw[<-ec]at L y z A;let ⟨r1,q,r3,r4⟩:=sc H l.aH L z;generalize (aL rest x p).1=d at*;have e:(fx (cH part d p):Fx p)=fx part*fx d:=uY part d;let ⟨t1,t2⟩:=Tw H q1 r1;have pc:=L.pos;refine⟨O,⟨t1,λQ a P=>?_,λQ a=>?_,by have:=l.len;omega⟩⟩
 .rw[e]at P;have W:Q∣fx part->Q∣fx d->False:=λi s=>by
   have t:Q∣fx rest:=by rw[q];exact kN s _
   have M:Q∣fx x:=by rw[A];exact dvd_add (dI i S)<|dI t T
   exact l.kS Q a (by rw[q];exact wL s M)
  by_cases k:Q∣fx part
  .let ⟨w,hw⟩:=k;let ⟨v,E⟩:=P;have N:w*fx d=v*Q:=by refine yx H (a.ne H) (?_:w*fx d*Q=v*Q*Q);rw[hw]at E;rw[mul_assoc v,<-E];ac_rfl
   rcases a.na H ⟨v,N⟩with i|i
   .exact K Q a (by rw[hw];exact wL i<|dvd_refl Q)
   .exact W ⟨w,hw⟩ i
  .have u:Co Q (fx part):=(a.or H<|fx part).resolve_left k;have i:Q*Q∣fx d:=by have F:Co (fx part) (Q*Q):=u.symm.mul u.symm;exact F.symm.dvd (by exact P)
   exact l.kS Q a (by rw[q];exact kN i _)
 .rw[e,r];have G:=l.iff Q a;refine⟨λk=>?_,λk=>?_⟩
  .rcases a.na H k with k|k
   .exact kN k _
   .have s:=G.1 k;rw[q]at s;rcases a.na H s with t|t
    .exact dI t _
    .exact kN (dvd_trans t y) _
  .rcases a.na H k with k|k
   .exact kN k _
   .exact dI (G.2<|by rw[q];exact kN k _) _
def acR(H:bp p){Q:Fx p}(a:bl Q):∀{l:V (V G)},Q∣gY p l->∃g∈l,Q∣fx g
 |[],d=>absurd d<|a.AI H
 |g::l,d=>by
  rcases a.na H (show Q∣fx g*gY p l from d)with k|k
  .exact⟨g,ax,k⟩
  .let ⟨x,h1,h2⟩:=acR H a k;exact⟨x,yA,h2⟩
def acS(H:bp p){f m}{l}(o:qV p f m)(d:tJ p m l):Bl p f l:=by
 refine⟨λg i=>?_,?_⟩
 .let ⟨t,g2,q⟩:=d.parts g i;exact⟨t,g2,q,(o.iff _ q).2<|by rw[<-d.prod];exact M4 p i⟩
 .have n:∀l:V (V G),(∀g∈l,bl (fx g:Fx p))->gY p l∣fx m->l.Pairwise λx y=>x≠y:=by
   intro l;induction l with
   |nil=>intro _ _;exact H5
   |cons g l u=>
    intro s a
    refine jr.2 ⟨λk v e=>?_,u (λx hx=>s x lA) (dvd_trans (dvd_mul_left _ _) a)⟩
    subst e
    exact o.kS _ (s g ax)<|dvd_trans (wL (dvd_refl _)<|M4 p v) a
  exact n _ (λg i=>(d.parts g i).2.2) (by rw[d.prod];exact dvd_refl _)
def acT:∀(a:V (V G))(f:V G)(m:Y)(l:V (V G×G)),(∀x∈l,x∈(gn p m a (f,l)).2)/\∀g∈a,∃n,(g,n)∈(gn p m a (f,l)).2
 |[],f,m,l=>⟨λx hx=>hx,λg e=>by cases e⟩
 |g::a,f,m,l=>by
  let ⟨d,h2⟩:=acT a (pull p g (Z f+1) f 0).1 m<|l++[(g,(((pull p g (Z f+1) f 0).2:Y):G)*(m:G))];rw[gn];refine⟨λx hx=>d x lA,λx hx=>?_⟩;rcases bX.1 hx with rfl|hx
  .exact⟨_,d _<|fU _<|iU.2 J⟩
  .exact h2 x hx
def an8(H:bp p){f s}{l}(F:Mon p f)(t:qV p f s)(i:tJ p s l):Bm p (fx f) (gn p 1 l (f,[])).2:=by
 obtain⟨a,r,y⟩:=Td H l f [] (tK.start F) (acS H t i);have d:∀Q,bl Q->Q∣fx (gn p 1 l (f,[])).1->False:=λQ k d=>by
  have K:Q∣fx f:=by rw[a.prod,qE];exact kN d _
  have u:=(t.iff Q k).1 K;rw[<-i.prod]at u;obtain⟨g,x,L⟩:=acR H k u;obtain⟨n,B⟩:=(acT l f 1 []).2 g x;have P:=a.nd _ B;have m:=(i.parts g x).2.2;obtain⟨w,C⟩:=L;rcases m.2 _ _ C with e|e
  .obtain⟨v,U⟩:=uN H e;refine P<|dvd_trans ⟨v,?_⟩ d;show Q=v*fx g;rw[C,<-mul_assoc,U,one_mul]
  .have:=k.1;omega
 have W:=a.aH.pos;have X:(fx (gn p 1 l (f,[])).1:Fx p)=1:=by
  have o:(gn p 1 l (f,[])).1.length<=1:=by
   refine eX λB=>?_
   obtain⟨Q,q1,b⟩:=rR H _ (fx (gn p 1 l (f,[])).1:Fx p) (dJ _) (by rw[cO a.aH.c];omega);exact d Q q1 b
  rw[<-AT];congr 1;have q:=a.aH.one;generalize (gn p 1 l (f,[])).1=j at*;match j,o,W,q with
  |[c],_,_,q=>rw[show c=1 from q]
 refine⟨a.fI,a.ds,?_⟩;have:=a.prod;rw[X,qE,one_mul]at this;exact this.symm
end
def lv(a:V G)(q:G)(d:V G):V G:=(cd<|Z a).map λi=>E a i 0+q*E d i 0
def Ia a q d:Z (lv a q d)=Z a:=by simp[lv]
def Ng a q d(e:Z d<=Z a) i:E (lv a q d) i 0=E a i 0+q*E d i 0:=by
 by_cases c:i<Z a
 .unfold lv;rw[aM,iV,kK c];rfl
 .rw[eN _ (by rw[Ia];omega),eN a O,eN d O,gy];rfl
def acU a q d(e:Z d<=Z a):ps (lv a q d)=ps a+PS.K q*ps d:=PS.ext λi=>by rw[PS.eI,PS.eW];exact Ng a q d e i
def Tx{a b}q(d:aH a)(f:Z b<Z a):aH (lv a q b):=by refine⟨λe=>by have:=Ia a q b;rw[e]at this;exact d.1<|fE this.symm,?_⟩;rw[Ia,Ng a q b O,d.2,eN b O,gy];rfl
section
variable{p:Y}
structure tL(p:Y)(f g h a K:V G)(d:Y):Prop where
 Gm:aH a
 Gl:a.length=g.length
 Gp:(fx a:Fx p)=fx g
 Gr:∀i,0<=a.getD i 0/\a.getD i 0<(p:G)^d
 Km:aH K
 Kl:K.length=h.length
 Kp:(fx K:Fx p)=fx h
 Kr:∀i,0<=K.getD i 0/\K.getD i 0<(p:G)^d
 pr:Cg ((p:G)^d) (ps f) (ps a*ps K)
def tL.start{f g a}(d:Mon p g)(k:Mon p a)(e:(fx f:Fx p)=fx g*fx a):tL p f g a g a 1:=by have l:(p:G)^1=p:=Int.pow_one _;refine⟨⟨d.ne,d.one⟩,J,J,λi=>by rw[l];exact d.c.1 i,⟨k.ne,k.one⟩,J,J,λi=>by rw[l];exact k.c.1 i,?_⟩;rw[l];exact mk_eq.1<|show Fx.mk (ps f) (bc.ps p f)=Fx.mk (ps g*ps a) ((bc.ps p g).mul<|bc.ps p a)from e
def acV{a d}{q}(m:0<q)(e:∀i,0<=E a i 0/\E a i 0<q)(f:∀i,0<=E d i 0/\E d i 0<(p:G))(g:Z d<=Z a) i:0<=E (lv a q d) i 0/\E (lv a q d) i 0<q*p:=by rw[Ng a q d g];let ⟨a1,a2⟩:=e i;let ⟨k,n⟩:=f i;have o:0<=q*E d i 0:=iP O k;have l:q*(E d i 0+1)<=q*p:=jQ O O;rw[nq,mm]at l;omega
def acW{a d}{q}(e:Z d<=Z a)(f:(p:G)∣q):(fx (lv a q d):Fx p)=fx a:=by refine LR<|Cg.of λi=>?_;obtain⟨z,rfl⟩:=f;rw[cy,cy,Ng _ _ _ e,iF,Kh]
def an9(H:bp p){g a e t}(d:Mon p g)(l:Mon p a)(O1:2<=Z g)(he:bs p e)(hl:Z e+2<=Z g+a.length)(ht:(fx g:Fx p)∣fx t*fx a-1):
  (aL (cH t e p) g p).2.length<Z g/\bs p (aL (cH t e p) g p).2/\
  bs p (aL (aK<|fG e (cH (aL (cH t e p) g p).2 a p) p) g p).1/\(aL (aK<|fG e (cH (aL (cH t e p) g p).2 a p) p) g p).1.length<a.length/\
  (fx e:Fx p)=fx (aL (cH t e p) g p).2*fx a+fx (aL (aK<|fG e (cH (aL (cH t e p) g p).2 a p) p) g p).1*fx g:=by
 have m:=mr H.pos t e
 let ⟨_,_,_,d4,d5,_⟩:=lq H.hp H.le m.1 d.c d.ne
 have F:=LX H m d.c d.ne
 rw[uY]at F
 have n:=d5 m
 generalize (aL (cH t e p) g p).2=dg at*
 have o:(fx (aK<|fG e (cH dg a p) p):Fx p)=fx e-fx dg*fx a:=by rw[RF,uY]
 have i:bs p (aK<|fG e (cH dg a p) p):=kg H.pos<|Ax H.pos _ _
 generalize aK (fG e (cH dg a p) p)=s at*
 have X:(fx g:Fx p)∣fx s:=by rw[o];have b:(fx g:Fx p)∣fx dg*fx a-fx t*fx e*fx a:=qD F<|o9 _ _;have K:(fx g:Fx p)∣fx e*(fx t*fx a)-fx e*1:=qD (o9 _ _) ht;rw[mul_one]at K;have j:(fx g:Fx p)∣fx dg*fx a-fx e:=og b (by have r:fx t*fx e*fx a=fx e*(fx t*fx a:Fx p):=fq;rw[r];exact K);exact m9 j
 have q:=yC H i d.c d.ne X
 let ⟨_,L,_,_,_,u⟩:=lq H.hp H.le i.1 d.c d.ne
 have w:Z s+2<=Z g+a.length:=by
  have v:=GU H.pos (fx e:Fx p)<|fx dg*fx a;rw[<-o,cO i,cO he]at v;have P:sz (fx dg*fx a:Fx p)+2<=Z g+a.length:=by
   have y:=l.pos;by_cases f:dg=[]
   .rw[f,jL,zero_mul,kh H.pos];omega
   .have z:(fx dg:Fx p)≠0:=λe=>f (tx n (qA H.pos)<|e.trans jL.symm)
    have:=dK H z<|l.jM H;rw[cO n,cO l.c]at this;omega
  omega
 have B:bs p (aL s g p).1:=by
  refine⟨L,?_⟩;by_cases f:s=[]
  .left;refine fE ?_;rw[u,f];simp
  .have A:(fx s:Fx p)≠0:=λe=>f (tx i (qA H.pos)<|e.trans jL.symm)
   let ⟨x,hx,ex⟩:=iY H.pos (fx (aL s g p).1:Fx p);have k:(fx x:Fx p)≠0:=λe=>A (by rw[q,<-ex,e,zero_mul])
   have v:=dK H k<|d.jM H;rw[ex,<-q,cO i,<-ex,cO hx,cO d.c]at v;right;have P:(aL s g p).1.length=Z x:=by rw[u];omega
   have Q:=Zv ex<|Z x-1;have U:=L<|Z x-1;have W:=hx.1<|Z x-1;rw[gx U.1 U.2,gx W.1 W.2]at Q;rw[P,<-Q];rcases hx.2 with C|C
   .exact absurd (by rw[C,jL]) k
   .exact C
 refine⟨O,n,B,?_,?_⟩
 .rw[u];have y:=l.pos;by_cases f:Z s<=Z g-1
  .omega
  .omega
 .rw[<-q,o,add_comm,kM]
def tL.step(H:bp p){f g o l K e a d}{k}(m:tL p f g o l K k)(j1:1<=k) s(v:ps f=ps l*ps K+PS.K ((p:G)^k)*s)(L:Cg p (ps e) s)
  (l1:Z a<Z g) (P:bs p a) (l2:Z d<o.length) (Q:bs p d) (U:(fx e:Fx p)=fx a*fx o+fx d*fx g):tL p f g o (lv l ((p:G)^k) a) (lv K ((p:G)^k) d) (k+1):=by
 have T:=H.hp.1
 have x:(0:G)<(p:G)^k:=mI O
 have n:(p:G)∣(p:G)^k:=by obtain⟨i,rfl⟩:∃i,k=i+1:=⟨k-1,O⟩;rw[fb];exact A2 _ _
 have X:=m.Gl
 have c:=m.Kl
 have r:=acV (p:=p) x m.Gr P.1 O
 have D:=acV (p:=p) x m.Kr Q.1 O
 have E:=Tx ((p:G)^k) m.Gm (b:=a) O
 have M:=Tx ((p:G)^k) m.Km (b:=d) O
 have F:=acU l ((p:G)^k) a O
 have s2:=acU K ((p:G)^k) d O
 refine⟨E,by rw[Ia,X],by rw[acW O n,m.Gp],λi=>by rw[fb];exact r i,M,by rw[Ia,c],by rw[acW O n,m.Kp],λi=>by rw[fb];exact D i,?_⟩
 rw[fb]
 obtain⟨q,eq⟩:∃q,q=(p:G)^k:=⟨_,J⟩
 rw[<-eq]at v F s2 n⊢
 have t:Cg p s (ps a*ps K+ps d*ps l):=by
  refine L.symm.trans ?_;have u:(fx e:Fx p)=fx a*fx K+fx d*fx l:=by rw[U,m.Kp,m.Gp]
  exact mk_eq.1<|show Fx.mk (ps e) (bc.ps p e)=Fx.mk (ps a*ps K+ps d*ps l) (((bc.ps p a).mul<|bc.ps p K).add<|(bc.ps p d).mul<|bc.ps p l)from u
 rw[F,s2]
 have u:(ps l+PS.K q*ps a)*(ps K+PS.K q*ps d)=ps l*ps K+PS.K q*(ps a*ps K+ps d*ps l)+PS.K q*(PS.K q*(ps a*ps d)):=by simp only[PS.mul_add,PS.add_mul];ac_rfl
 rw[u]
 refine Cg.Qi λi=>?_
 let ⟨z,V⟩:=t.dvd i
 let ⟨y,N⟩:=n
 rw[v,PS.eI,PS.eI,PS.eI,PS.eW,PS.eW,PS.eW,PS.eW]
 refine⟨z-y*(ps a*ps d) i,?_⟩
 generalize (ps a*ps K+ps d*ps l) i=A at*
 generalize (ps a*ps d) i=B at*
 generalize s i=W at*
 generalize (ps l*ps K) i=C at*
 have R:W=A+p*z:=O
 rw[R,CY,nq]
 have S:q*(q*B)=q*p*(y*B):=by
  conv=>lhs;rw[et q (q*B)]
  rw[N];ac_rfl
 rw[S,iF q (p:G) z]
 omega
end
def an'{p}{l a}(d:l.Perm a):iu p l=iu p a:=by
 induction d with
 |nil=>rfl
 |cons x _ e=>rw[iu,iu,e]
 |swap x y l=>rw[iu,iu,iu,iu,<-mul_assoc,<-mul_assoc,mul_comm<|pk (fx y.1) _]
 |trans _ _ f h2=>rw[f,h2]
def Bm.perm{p}{F}{l g}(a:Bm p F l)(d:g.Perm l):Bm p F g:=
 ⟨λx i=>a.parts x<|d.mem_iff.1 i,d.symm.pairwise a.ds (λf e=>f e.symm),(an' d).trans a.prod⟩
def vn{p}(H:bp p){f a}(e:bs p a)(g:bs p f)(d:f≠[]):bs p (aL a f p).2/\(aL a f p).2.length<Z f/\(fx f:Fx p)∣fx (aL a f p).2-fx a:=by let ⟨d1,d2,d3,d4,d5,d6⟩:=lq H.hp H.le e.1 g d;have i:=cv.2 d;exact⟨d5 e,O,LX H e g d⟩
def Nh{p}(H:bp p) f a(n:Y)(lf:Z f<=200)(l:bs p f)(d:f≠[])(L:bs p a)(Q:Z a<=200)(U:n<18446744073709551616):
  r z 251 [N aq a,cU n,N aq f,cU p] (N aq<|gX H f<|pk (fx a) n):=by
 refine aJ Tryz.func251 ?_
 have W:=H.hp.1
 have P:=H.le
 have u:bs p [1]:=⟨Dh O O,by show can _;exact .inr (T:(1:G)≠0)⟩
 let ⟨q1,X,w⟩:=vn H u l d
 let ⟨y,D,E⟩:=vn H L l d
 have s:=rN p H.hp H.le [1] f ax O u l d
 have t:=rN p H.hp H.le a f O O L l d
 refine I J<|R<|rl aq [1] J J (rc J J s<|j J<|bw J J t J<|M<|I J ?_)
 refine ay<|bf (α:=V G×V G×Y) (λx=>⟨[(2,N aq f),(3,cU p),(9,N aq x.1),(10,N aq x.2.1),(11,cU x.2.2)],[],5,[]⟩) (λx=>bs p x.1/\bs p x.2.1/\Z x.1<Z f/\Z x.2.1<Z f/\x.2.2<18446744073709551616/\(fx f:Fx p)∣fx x.1*pk (fx x.2.1) x.2.2-pk (fx a) n) (λx=>x.2.2) ((aL [1] f p).2,(aL a f p).2,n) ⟨q1,y,X,D,U,?_⟩ aU ?_
 .have:=qD w<|Ho E n;rwa[AT,one_mul]at this
 rintro⟨i,b,m⟩ ⟨s,t,C,lb,hm,hc⟩
 simp only at s t C lb hm hc
 have g:=S7 H (a:=b) (b:=b) l d
 have S:=uG b b p
 have v:=te b b p O O O O t.1 t.1
 have B:=rN p H.hp H.le (cH b b p) f O O (mr H.pos b b) l d
 refine M<|I J<|c J (λh=>?_)<|λh=>?_
 .have h:0<m:=by have h:(m:G)>0:=aT h;omega
  refine aD<|M<|ay<|M<|I J (hp:=aF)<|c J (λo=>?_)<|λo=>?_
  .have o:(m:G).tmod 2=1:=eq_of_beq o;have hod:m%2=1:=by rw[show(2:G)=((2:Y):G)from J,lJ]at o;omega
   obtain⟨k,rfl⟩:∃k,m=2*k+1:=⟨m/2,O⟩;have q:=S7 H (a:=i) (b:=b) l d;have GG:=uG i b p;have F:=te i b p O O O O s.1 t.1;have K:=rN p H.hp H.le (cH i b p) f O O (mr H.pos i b) l d;refine cA<|rc J J F<|rc J J K<|j J<|aI ?_;refine cA<|rc J J v<|rc J J B<|j J<|bH<|rt J (hp:=aF)<|aS (vk p f i b,vk p f b b,k) ⟨q.1,g.1,q.2.1,g.2.1,by show k<_;omega,?_⟩ (O:k<2*k+1)<|wk ⟨sR J,sR J,sR J,sR J,sE J ?_,A⟩ A
   .show fx f∣fx (vk p f i b)*pk (fx<|vk p f b b) k-pk (fx a) n;refine og (qD q.2.2<|Ho g.2.2 k) ?_;rw[tk,mul_assoc,<-yv];have e:fx b*pk (fx b) (k+k)=(pk (fx b) (2*k+1):Fx p):=by rw[mul_comm,(O:k+k=2*k)];rfl
    rw[e];exact hc
   .exact bK<|(As (2*k+1) hm).trans (O:((((2*k+1)/2:Y)):G)=(k:G))
  .have o:(m:G).tmod 2≠1:=m5 o;have HS:m%2=0:=by rw[show(2:G)=((2:Y):G)from J,lJ]at o;omega
   obtain⟨k,rfl⟩:∃k,m=2*k:=⟨m/2,O⟩;refine aD ?_;refine cA<|rc J J v<|rc J J B<|j J<|bH<|rt J (hp:=aF)<|aS (i,vk p f b b,k) ⟨s,g.1,C,g.2.1,by show k<_;omega,?_⟩ (O:k<2*k)<|wk ⟨sR J,sR J,sR J,sR J,sE J ?_,A⟩ A
   .show fx f∣fx i*pk (fx<|vk p f b b) k-pk (fx a) n;refine og (qD (o9 _<|fx i)<|Ho g.2.2 k) ?_;rw[tk,<-yv,(O:k+k=2*k)];exact hc
   .exact bK<|(As (2*k) hm).trans (O:((((2*k)/2:Y)):G)=(k:G))
 .have h:m=0:=by have h:¬(m:G)>0:=a4 h;omega
  subst h;rw[pk,mul_one]at hc;rw[anj H l d s C hc];exact bh<|aI<|I J<|cJ J
def xj(a d:V G):V G:=(cd<|max (Z a)<|Z d).map λi=>E a i 0+E d i 0
def acX a d:Z (xj a d)=max (Z a) (Z d):=by simp[xj]
def aoa a d p(x:Z a<=1000)(B:Z d<=1000)(l:0<p)(F:p<=2147483648)(o:rp p a)(q:rp p d):r z 300 [N aq a,N aq d,cU p] (N aq<|aK<|md p<|xj a d):=by
 refine aJ Tryz.func300 ?_;generalize hM:max (Z a) (Z d)=M;have s:=acX a d;have f:∀i,i<M->E (xj a d) i 0=E a i 0+E d i 0:=λi t=>by unfold xj;rw[aM,iV,kK O];rfl
 have m:∀i,0<=E (xj a d) i 0:=λi=>by
  by_cases e:i<M
  .rw[f i e];have u:=o i;have h2:=q i;omega
  .rw[eN _ O];exact gK _
 rw[hM]at s;generalize xj a d=L at*;refine I J<|R<|fM aq [] J J (j J<|jg<|I J ?_);refine ay<|bf (α:=Y) (λi=>⟨[(0,N aq a),(1,N aq d),(2,cU p),(7,.c<|.X 1000000),(8,y i)],[(1000000,.vec 150 aq<|h i L)],3,[]⟩) (λi=>i<=M) (λi=>M-i) 0 (a8 _) aU ?_;intro i t;have C:(h i L).length=i:=bV;by_cases g:i<M
 .refine m0 ⟨[(0,N aq a),(1,N aq d),(2,cU p),(7,.c<|.X 1000000),(8,y i)],[(1000000,.vec 150 aq<|h i L)],4,[]⟩ ?_ (λk=>R<|rg 14 J J (λe=>j J<|c J (λ_=>c7<|eZ k aU)<|λh2=>oZ)<|λe=>j J<|c J (λ_=>c7<|eZ k aU)<|λh2=>?_)
  .have u:=o i;have h2:=q i;refine jg<|ay<|cA ?_;refine rc J J (Gw a i)<|rc J J (Gw d i) ?_;refine rl aq [_] J J (ra J J J J J J J J J ?_ ?_<|j J ?_)
   .show(_+1+(_+1)/4+192)*8<=_;omega
   .show(_+1)*1<=_;omega
   refine bH<|rt J<|aS (i+1) g wc<|Wk.trans (wk (st':=⟨[(0,N aq a),(1,N aq d),(2,cU p),(7,.c<|.X 4009000),(8,y ((i+1:Y):G))],[(4009000,.vec 150 aq<|h (i+1) L)],8,[]⟩) (bJ J) ⟨bE J ?_,A⟩)<|Wk.trans (gw 1000000 4009000 J J J) aU;refine a6 (aE.vec 150 aq) ?_;rw[qy _ i O,f i g,wrap_u64 _ O O]
  .exfalso;have e:¬(i:G)<(Z a:G):=a4 e;have h2:¬(i:G)<(Z d:G):=a4 h2;omega
 .have n:i=M:=by omega
  subst n;have v:=wB L p O l O m;rw[iO O];refine jg<|R<|rg 14 J J (λe=>?_)<|λe=>?_
  .exfalso;have e:(i:G)<(Z a:G):=aT e;omega
  .refine j J (c J (λh2=>?_)<|λh2=>?_)
   .exfalso;have h2:(i:G)<(Z d:G):=aT h2;omega
   .exact bh<|aI<|c8 1000000 J J J<|bw J J v J<|cJ J
def acY f(p:Y)(t:Z f<=1000)(a:0<p)(u:p<=2147483648)(n:rp p f):r z 173 [N aq f,cU p] (N aq<|aK<|jm p f):=by
 refine aJ Tryz.func173 ?_;have v:=H2 p f;have g:=λi(k:i<Z f-1)=>S' p f k
 have l:=wB (jm p f) p O O O<|λi=>(H3 a f i).1;rw[Gy (H3 a f)]at l;generalize jm p f=L at*;refine I J<|R<|fM aq [] J J (j J<|M<|I J ?_);refine ay<|bf (α:=Y) (λi=>⟨[(0,N aq f),(1,cU p),(5,.c<|.X 1000000),(6,y ((i+1:Y):G))],[(1000000,.vec 150 aq<|h i L)],3,[]⟩) (λi=>i<=Z f-1) (λi=>Z f-i) 0 (a8 _) aU ?_;intro i k;have x:(h i L).length=i:=bV;refine M<|I J<|c J (λd=>?_)<|λd=>?_
 .have d:i+1<Z f:=by have d:((i+1:Y):G)<(Z f:G):=aT d;omega
  have o:af (((i+1:Y):G))=i+1:=b6 _;have q:=n<|i+1;refine aD<|M<|ay<|cA ?_;refine rl aq [_] J J (ra J J J J J J J J J ?_ ?_<|j J ?_) (hp:=aF)
  .show(_+1+(_+1)/4+192)*8<=_;omega
  .show(_+1)*1<=_;omega
  refine bH<|rt J<|aS (i+1) O (O:Z f-(i+1)<Z f-i)<|Wk.trans (wk (st':=⟨[(0,N aq f),(1,cU p),(5,.c<|.X 4013000),(6,y ((i+1+1:Y):G))],[(4013000,.vec 150 aq<|h (i+1) L)],8,[]⟩) (bJ J) ⟨bE J ?_,A⟩)<|Wk.trans (gw 1000000 4013000 J J J) aU;refine a6 (aE.vec 150 aq) ?_;have s:(aw .u64 ((i+1:Y):G)).tmod p=(((i+1)%p:Y):G):=by rw[wrap_u64 _ O O,lJ]
  have B:(((i+1)%p:Y):G)<p:=by have:=fg (i+1) a;omega
  have m:0<=E f (i+1) 0*(((i+1)%p:Y):G):=iP q.1 O;have C:E f (i+1) 0*(((i+1)%p:Y):G)<=2147483648*2147483648:=vA O O O O;have e:(aw .u64<|E f (af ((i+1:Y):G)) aq.dA*(aw .u64 ((i+1:Y):G)).tmod p).tmod p=E L i 0:=by rw[s,o,g i O];show(aw .u64<|E f (i+1) 0*(((i+1)%p:Y):G)).tmod p=_;rw[wrap_u64 _ m O,lj m,et]
  rw[e,qy _ i O]
 .have d:¬((i+1:Y):G)<(Z f:G):=a4 d;rw[iO O];exact bh<|aI<|c8 1000000 J J J<|bw J J l J<|cJ J
def jB(p:Y):Y->Y->V G
 |0,_=>[]
 |s+1,n=>if n=0 then[]else((n%p:Y):G)::jB p s (n/p)
def Ni p s:jB p s 0=[]:=by cases s<;>rfl
def Ty{p:Y}(e:2<=p):∀s n,n<2^s->bs p (jB p s n)/\Z (jB p s n)<=s
 |0,n,_=>⟨qA O,aW _⟩
 |s+1,n,f=>by
  rw[jB];split
  .exact⟨qA O,a8 _⟩
  .rename_i g;have a:n/p<2^s:=by have d:n/p<=n/2:=aob e T;rw[fp]at f;omega
   let ⟨⟨i1,i2⟩,i3⟩:=Ty e s (n/p) a;refine⟨⟨λi=>?_,?_⟩,bV⟩
   .cases i with
    |zero=>
     have:=fg n (O:0<p)
     show 0<=((n%p:Y):G)/\((n%p:Y):G)<p
     omega
    |succ i=>exact i1 i
   .right;by_cases d:n/p=0
    .rw[d,Ni];have:n<p:=by rwa[Nat.div_eq_zero_iff_lt O]at d
     show((n%p:Y):G)≠0;rw[n5 this];omega
    .rcases i2 with i2|i2
     .exfalso;have:jB p s (n/p)≠[]:=by
       cases s with
       |zero=>exact absurd a (by rw[oY];have:=qn d;omega)
       |succ s=>rw[jB,w d];simp
      exact this i2
     .rw[gQ,eh];generalize jB p s (n/p)=l at*;cases l with
      |nil=>exact absurd J i2
      |cons c l=>exact i2
def kT(p:Y):V G->Y
 |[]=>0
 |a::l=>af a+p*kT p l
def acZ{p:Y}(m:0<p):∀(s:Y)(q:V G),Z q<=s->bs p q->jB p s (kT p q)=q
 |s,[],_,_=>Ni p s
 |0,a::q,g,_=>by simp at g
 |s+1,a::q,g,f=>by
  have t:0<=a/\a<p:=f.1 0;have n:bs p q/\(q=[]->a≠0):=by
   refine⟨⟨λi=>f.1<|i+1,?_⟩,λe=>?_⟩
   .rcases f.2 with e|e
    .cases e
    .cases q with
     |nil=>exact .inl J
     |cons d q=>exact .inr e
   .subst e;rcases f.2 with e|e
    .cases e
    .exact e
  have k:=acZ m s q (by simp at g;omega) n.1;have o:kT p (a::q)%p=af a:=by rw[kT,Nat.add_mul_mod_self_left,n5 O]
  have l:kT p (a::q)/p=kT p q:=by rw[kT,Nat.add_mul_div_left _ _ m,Aj O,eH]
  have u:kT p (a::q)≠0:=λe=>by rw[e,Nat.zero_div]at l;rw[e,Nat.zero_mod]at o;rw[<-l,Ni]at k;exact n.2 k.symm O
  rw[jB,w u,o,l,k,uq t.1]
def ac0{p:Y}:∀q:V G,(∀i,0<=E q i 0/\E q i 0<(p:G))->kT p q<p^Z q
 |[],_=>by simp[kT]
 |a::q,d=>by
  have g:0<=a/\a<p:=d 0;have e:=ac0 q λi=>d<|i+1
  have f:=ia p (show kT p q+1<=p^Z q from e);rw[kT,gQ,fp,gO<|p^_];rw[uD]at f;omega
def ac1{p:Y}(a:G):∀q:V G,kT p (q++[a])=kT p q+p^Z q*af a
 |[]=>by simp[kT]
 |d::q=>by rw[lY,kT,ac1 a q,kT,gQ,fp,uD];have:p*(p^Z q*af a)=p^Z q*p*af a:=fq;omega
def aoc{p}{q}(a:Mon p q):p^(Z q-1)<=kT p q/\kT p q<2*p^(Z q-1):=by
 obtain⟨d,rfl⟩:∃d,q=d++[1]:=⟨q.dropLast,by
  have e:=Tv a.ne;have f:q.getLast a.ne=1:=by have:=a.one;have g:=a.pos;rw[aM,cK O]at this;rw[an7];exact this
  rw[f]at e;exact e.symm⟩
 have k:=ac0 (p:=p) d λi=>by
  by_cases h:i<Z d
  .have:=a.c.1 i;rwa[aM,B4 h,<-aM]at this
  .rw[eN _ O];have:=a.c.1 0;omega
 rw[ac1,ix,rG,eh];have:af (1:G)=1:=rfl;rw[this,qj];omega
def aod(p n:Y)(f:2<=p)(g:p<=2147483648)(l:n<18446744073709551616):r z 286 [cU n,cU p] (N aq<|jB p 64 n):=by
 refine aJ Tryz.func286 ?_;refine I J<|R<|fM aq [] J J (j J<|M<|I J ?_);refine ay<|bf (α:=V G×Y) (λx=>⟨[(1,cU p),(5,.c<|.X 1000000),(6,cU x.2)],[(1000000,.vec 150 aq x.1)],3,[]⟩) (λx=>Z x.1<=64/\x.2<2^(64-Z x.1)/\jB p 64 n=x.1++jB p (64-Z x.1) x.2) (λx=>x.2) ([],n) ⟨a8 _,l,J⟩ aU ?_;rintro⟨o,m⟩ ⟨q,h2,a⟩;simp only at q h2 a;have t:m<18446744073709551616:=hP h2<|fh (n:=2) T (O:64-Z o<=64);refine M<|I J<|c J (λh=>?_)<|λh=>?_
 .have h:0<m:=by have h:(m:G)>0:=aT h;omega
  have u:Z o<64:=by
   rcases oH (Z o) 64 with e|e
   .exact e
   .rw[(O:64-Z o=0)]at h2;omega
  obtain⟨k,i⟩:∃k,64-Z o=k+1:=⟨63-Z o,O⟩;have d:m/p<m:=Nat.div_lt_self h f;refine aD<|M<|ay<|cA ?_;refine rl aq [_] J J (ra J J J J J J J J J ?_ ?_<|j J ?_) (hp:=aF)
  .show(Z o+1+(Z o+1)/4+192)*8<=_;omega
  .show(Z o+1)*1<=_;omega
  refine bH<|rt J (aS (o++[((m%p:Y):G)],m/p) ⟨bV,?_,?_⟩ d<|Wk.trans (wk (st':=⟨[(1,cU p),(5,.c<|.X 4005000),(6,cU ((m/p:Y):G))],[(4005000,.vec 150 aq<|o++[((m%p:Y):G)])],8,[]⟩) ⟨sR J,sR J,sE J ?_,A⟩ ⟨bE J ?_,A⟩)<|Wk.trans (gw 1000000 4005000 J J J) aU) (hp:=aF)
  .simp only[ix,rG];rw[i,fp]at h2;rw[(O:64-(Z o+1)=k)];have v:m/p<=m/2:=aob f T;omega
  .simp only[ix,rG];rw[a,i,jB,w O,(O:64-(Z o+1)=k),lD];rfl
  .refine bK (show aw .u64 ((m:G).tdiv p)=((m/p:Y):G)from ?_);have s:(0:G)<=((m/p:Y):G):=pB _;rw[<-Int.ofNat_tdiv,wrap_u64 _ s O]
  .show aE.vec 150 aq (o++[(m:G).tmod p])=_;rw[lJ]
 .have h:m=0:=by have h:¬(m:G)>0:=a4 h;omega
  subst h;rw[Ni,g8]at a;rw[a];exact bh<|aI<|c8 1000000 J J J<|I J<|cJ J
section
variable{p:Y}(H:bp p)
noncomputable def oA(f:V G):Y->V G×V G->V G×V G
 |0,x=>x
 |k+1,x=>let a:=oA f k x;let w:=gX H f<|pk (fx a.2) 2;(aK<|md p<|xj a.1 w,w)
noncomputable def jn(f:V G):Y->V G×V G->V G×V G
 |0,x=>x
 |k+1,x=>let a:=jn f k x;let w:=gX H f<|pk (fx a.2) p;(vk p f a.1 w,w)
noncomputable def zc(t f:V G)(d:Y):V G:=
 let r:=(aL t f p).2
 if p=2 then(oA H f (d-1) (r,r)).1 else aK (fG (gX H f<|pk (fx (jn H f (d-1) (r,r)).1)<|(p-1)/2) [1] p)
variable{f:V G}(hf:bs p f)(jb:f≠[])
include hf jb
def Tz{x:V G×V G}(a:bs p x.1)(d:bs p x.2)(e:Z x.1<Z f)(g:Z x.2<Z f):∀k,bs p (oA H f k x).1/\bs p (oA H f k x).2/\(oA H f k x).1.length<Z f/\(oA H f k x).2.length<Z f
 |0=>⟨a,d,e,g⟩
 |k+1=>by let ⟨i1,i2,i3,i4⟩:=Tz a d e g k;let ⟨m1,i,_⟩:=xe H hf jb<|pk (fx (oA H f k x).2) 2;have l:=oc<|md p<|xj (oA H f k x).1<|gX H f<|pk (fx (oA H f k x).2) 2;rw[wA,acX]at l;exact⟨kg H.pos<|Aw H.pos _,m1,by show Z (aK _)<_;omega,i⟩
def aoe{x:V G×V G}(d:bs p x.1)(e:bs p x.2)(g:Z x.1<Z f)(i:Z x.2<Z f):∀k,bs p (jn H f k x).1/\bs p (jn H f k x).2/\(jn H f k x).1.length<Z f/\(jn H f k x).2.length<Z f
 |0=>⟨d,e,g,i⟩
 |k+1=>by let ⟨m1,l,_⟩:=xe H hf jb<|pk (fx (jn H f k x).2) p;let ⟨m,n,_⟩:=S7 H (a:=(jn H f k x).1) (b:=gX H f<|pk (fx (jn H f k x).2) p) hf jb;exact⟨m,m1,n,l⟩
def ac2{t:V G}(g:bs p t)(d:Y):bs p (zc H t f d)/\Z (zc H t f d)<=Z f:=by
 let ⟨r1,a,_⟩:=vn H g hf jb;unfold zc;split
 .let ⟨i1,_,i3,_⟩:=Tz H hf jb (x:=((aL t f p).2,(aL t f p).2)) r1 r1 a a<|d-1;exact⟨i1,xw i3⟩
 .have e:=oc<|fG (gX H f<|pk (fx (jn H f (d-1) ((aL t f p).2,(aL t f p).2)).1)<|(p-1)/2) [1] p;have i:=(xe H hf jb<|pk (fx (jn H f (d-1) ((aL t f p).2,(aL t f p).2)).1)<|(p-1)/2).2.1;rw[K0,rG]at e;exact⟨kg H.pos<|Ax H.pos _ _,bQ e O⟩
def aof{t:V G}(B:bs p t)(lt:Z t<=200)(o:Z f<=200)(d:Y)(d1:1<=d)(d2:d<=1000):r z 287 [N aq t,y d,N aq f,cU p] (N aq<|zc H t f d):=by
 refine aJ Tryz.func287 ?_;have L:=H.hp.1;have C:=H.le;have P:=cv.2 jb;let ⟨r1,n,_⟩:=vn H B hf jb;have F:=rN p H.hp H.le t f O O B hf jb;obtain⟨k,rfl⟩:∃k,d=k+1:=⟨d-1,O⟩;unfold zc;rw[eh];have Q:=λk=>Tz H hf jb (x:=((aL t f p).2,(aL t f p).2)) r1 r1 n n k
 have U:=λk=>aoe H hf jb (x:=((aL t f p).2,(aL t f p).2)) r1 r1 n n k
 generalize (aL t f p).2=a at*;refine I J<|M<|I J<|c J (λh=>?_)<|λh=>aD ?_
 .have h:(p:G)=2:=eq_of_beq h;rw[ao O];refine bw J J F J<|I J<|M<|I J ?_;refine ay<|bf (α:=Y) (λi=>⟨[(1,y ((k+1:Y):G)),(2,N aq f),(3,cU p),(9,N aq (oA H f i (a,a)).1),(10,N aq (oA H f i (a,a)).2),(11,y ((i+1:Y):G))],[],6,[]⟩) (λi=>i<=k) (λi=>k-i) 0 (a8 _) aU ?_;intro i W;let ⟨l,m,X,b⟩:=Q i;refine M (I J<|c J (λh=>?_)<|λh=>?_)
  .have h:((i+1:Y):G)<((k+1:Y):G):=aT h;have g:=Nh H f (oA H f i (a,a)).2 2 o hf jb m O T;let ⟨m1,K,_⟩:=xe H hf jb<|pk (fx (oA H f i (a,a)).2) 2;have q:=aoa (oA H f i (a,a)).1 (gX H f<|pk (fx (oA H f i (a,a)).2) 2) p O O H.pos O l.1 m1.1;refine aD<|M<|ay<|bw J J g J<|cA<|rc J J q<|j J<|bH<|rt J (hp:=aF)<|aS (i+1) O Lb aU
  .have h:¬((i+1:Y):G)<((k+1:Y):G):=a4 h;have e:i=k:=O;subst e;exact bh<|aI<|I J<|bI<|cG<|atR J
 .have h:(p:G)≠2:=m5 h;rw[w O];refine bw J J F J<|I J<|M<|I J ?_;refine ay<|bf (α:=Y) (λi=>⟨[(1,y ((k+1:Y):G)),(2,N aq f),(3,cU p),(12,N aq (jn H f i (a,a)).1),(13,N aq (jn H f i (a,a)).2),(14,y ((i+1:Y):G))],[],6,[]⟩) (λi=>i<=k) (λi=>k-i) 0 (a8 _) aU ?_;intro i W;let ⟨l,m,X,b⟩:=U i;refine M (I J<|c J (λh=>?_)<|λh=>?_)
  .have h:((i+1:Y):G)<((k+1:Y):G):=aT h;have g:=Nh H f (jn H f i (a,a)).2 p o hf jb m O O;let ⟨m1,K,_⟩:=xe H hf jb<|pk (fx (jn H f i (a,a)).2) p;have s:=te (jn H f i (a,a)).1 (gX H f<|pk (fx (jn H f i (a,a)).2) p) p O O O O l.1 m1.1;have A:=uG (jn H f i (a,a)).1 (gX H f<|pk (fx (jn H f i (a,a)).2) p) p;have u:=rN p H.hp H.le (cH (jn H f i (a,a)).1 (gX H f<|pk (fx (jn H f i (a,a)).2) p) p) f O O (mr H.pos _ _) hf jb;refine aD<|M<|ay<|bw J J g J<|cA<|rc J J s<|rc J J u<|j J<|bH<|rt J (hp:=aF)<|aS (i+1) O Lb aU
  .have h:¬((i+1:Y):G)<((k+1:Y):G):=a4 h;have e:i=k:=O;subst e;have m:aw .u64 ((aw .u64<|(p:G)-1).tdiv 2)=(((p-1)/2:Y):G):=by have l:aw .u64 ((p:G)-1)=(p:G)-1:=wrap_u64 _ O O;rw[l,(O:(p:G)-1=((p-1:Y):G))];exact As (p-1) O
   have g:r z 251 [N aq (jn H f i (a,a)).1,cU<|aw .u64<|(aw .u64<|(p:G)-1).tdiv 2,N aq f,cU p] (N aq<|gX H f<|pk (fx (jn H f i (a,a)).1)<|(p-1)/2):=by rw[m];exact Nh H f _ _ o hf jb l O O
   let ⟨m1,K,_⟩:=xe H hf jb<|pk (fx (jn H f i (a,a)).1)<|(p-1)/2;have v:=Gz (gX H f<|pk (fx (jn H f i (a,a)).1)<|(p-1)/2) [1] p O ax O O m1.1 (Dh O O);refine bh<|aI ?_;exact R<|rc J J g<|rl aq [1] J J (rc J J v<|j J<|cJ J)
end
section
variable{p:Y}(H:bp p)
noncomputable def gE(f:V G)(d n:Y):V G:=
 let g:=fH p f (aL (jB p 64 n) f p).2
 if Z g=1\/Z g=Z f then fH p f (zc H (jB p 64 n) f d)else g
variable{f:V G}{d:Y}
def ac3(a:Mon p f){n:Y}(e:n<18446744073709551616):Mon p (gE H f d n)/\(fx (gE H f d n):Fx p)∣fx f:=by
 let ⟨t1,t2⟩:=Ty H.hp.1 64 n e;let ⟨r1,l,_⟩:=vn H t1 a.c a.ne;let ⟨m1,g,_⟩:=yJ H a.c r1 a.ne;let ⟨i,k,_⟩:=yJ H a.c (ac2 H a.c a.ne t1 d).1 a.ne;unfold gE;dsimp only;split
 .exact⟨i,k⟩
 .exact⟨m1,g⟩
def aog(a:qU p f d)(o:1<=d)(L:2*p^d<=18446744073709551616)(P:d+1<Z f):∃n,(p<=n/\n<18446744073709551616/\1<Z (gE H f d n)/\Z (gE H f d n)<Z f)/\∀k,k<n->¬(p<=k/\k<18446744073709551616/\1<Z (gE H f d k)/\Z (gE H f d k)<Z f):=by
 refine Tu ?_;let ⟨q,q1,Q,s,t⟩:=a.ex H O;let ⟨v1,v2⟩:=aoc q1;rw[t,eh]at v1 v2;have g:=H.hp.1;have u:p<=p^d:=by have:=fh (O:0<p) o;rwa[Nat.pow_one]at this
 have m:d<64:=by
  have W:2^d<=p^d:=AQ g d;rcases oH d 64 with e|e
  .exact e
  .have X:2^64<=2^d:=fh T e;omega
 have i:=acZ (p:=p) O 64 q O q1.c;have l:(aL q f p).2=q:=by unfold aL;rw[ao O]
 let ⟨m1,b,v,U,V,x⟩:=yJ H a.aH.c q1.c a.aH.ne;have B:Z (fH p f q)=d+1:=by
  have C:(fx q:Fx p)∣fx (fH p f q):=by rw[x];exact dvd_add (dI s U)<|dvd_mul_left _ _
  have F:=iK H C<|m1.jM H;have K:=iK H v<|q1.jM H;rw[cO m1.c,cO q1.c]at F K;omega
 have e:gE H f d (kT p q)=fH p f q:=by unfold gE;rw[i,l,w O]
 exact⟨kT p q,O,O,by rw[e];omega,by rw[e];omega⟩
include H in
def TA(v:1<=d)(W:d<=1000)(hd:2*p^d<=18446744073709551616):∀(U:Y)(f:V G),Z f<U->Z f<=200->qU p f d->2<=Z f->∃l,tJ p f l/\Z l+1<=Z f/\nC z 253 [N aq f,y d,cU p] 167 (.sl aq) l
 |0,_,h,_,_,_=>by omega
 |U+1,f,hN,lf,h,h2=>by
  have x:=H.hp.1;have B:=H.le;by_cases X:Z f<=d+1
  .refine⟨[f],⟨λg b=>?_,by rw[gY,gY,mul_one]⟩,bV,?_⟩
   .have e:=iU.1 b;subst e;exact⟨h.aH,h2,h.fI H h2 X v⟩
   .refine FQ Tryz.func253 J J J J T ?_;refine I J (M<|I J<|c J (λh=>?_)<|λh=>?_)
    .exact R<|fM (.sl aq) [f] J J (j J<|bI<|cG<|FP (id:=2001000) cj J J)
    .exfalso;have h:¬(Z f:G)-1<=(d:G):=a4 h;omega
  .let ⟨i,⟨n1,n2,n3,n4⟩,C⟩:=aog H h v hd O;let ⟨E,g2⟩:=ac3 H (d:=d) h.aH n2;let ⟨a1,a2⟩:=h.parts H E g2;let ⟨q1,q2,q3,q4⟩:=sc H h.aH E g2;let ⟨l1,o1,m1,S⟩:=TA v W hd U _ O O a1 O;let ⟨l2,o2,m2,k2⟩:=TA v W hd U _ O O a2 O;refine⟨l1++l2,o1.app o2 q2,by rw[ix];omega,?_⟩;refine FQ Tryz.func253 J J J J T ?_;refine I J (M<|I J<|c J (λr=>?_)<|λr=>aD ?_)
   .exfalso;have r:(Z f:G)-1<=(d:G):=aT r;omega
   refine I J<|ay<|bf (α:=Y) (λn=>⟨[(0,N aq f),(1,y d),(2,cU p),(7,cU n)],[],4,[]⟩) (λn=>p<=n/\n<=i) (λn=>i-n) p ⟨aW _,n1⟩ aU ?_;rintro n ⟨b1,b2⟩;let ⟨t1,t2⟩:=Ty x 64 n (by omega:n<18446744073709551616);let ⟨r1,r2,_⟩:=vn H t1 h.aH.c h.aH.ne;have F:=aod p n x B O;have K:=rN p H.hp H.le (jB p 64 n) f O O t1 h.aH.c h.aH.ne;have L:=Di p H.hp H.le f (aL (jB p 64 n) f p).2 O O h.aH.c r1;let ⟨s1,s2⟩:=ac2 H h.aH.c h.aH.ne t1 d;have m:=aof H h.aH.c h.aH.ne t1 O lf d v W;have k:=Di p H.hp H.le f (zc H (jB p 64 n) f d) O O h.aH.c s1;have t:gE H f d n=if Z (fH p f (aL (jB p 64 n) f p).2)=1\/Z (fH p f (aL (jB p 64 n) f p).2)=Z f then fH p f (zc H (jB p 64 n) f d)else fH p f (aL (jB p 64 n) f p).2:=rfl
   generalize fH p f (aL (jB p 64 n) f p).2=g at*;refine M<|ay<|bw J J F J<|R<|rc J J K<|rc J J L<|j J ?_;refine m0 ⟨[(0,N aq f),(1,y d),(2,cU p),(7,cU n),(9,N aq<|gE H f d n)],[],9,[]⟩ ?_<|λq=>R<|rg 33 J J (λP=>?_)<|λP=>?_
   .let ⟨c1,c2⟩:=ac3 H (d:=d) h.aH (O:n<18446744073709551616);have cl:=(sc H h.aH c1 c2).2.2.2;have next:¬(1<Z (gE H f d n)/\Z (gE H f d n)<Z f)->n+1<=i:=λs=>by
     rcases oH n i with e|e
     .exact e
     .have D:n=i:=by omega
      rw[D]at s;exact absurd ⟨n3,n4⟩ s
    have yes:1<Z (gE H f d n)/\Z (gE H f d n)<Z f->n=i:=λs=>by
     rcases oH n i with e|e
     .exact absurd ⟨b1,O,s.1,s.2⟩<|C n e
     .omega
    generalize b:gE H f d n=u at*;refine R<|rg 51 J J (λa=>j J<|c J (λo=>?_)<|λo=>c7<|bH ?_)<|λa=>j J<|c J (λo=>by cases o)<|λo=>c7<|bH ?_
    .have a:(Z u:G)>1:=aT a;have o:(Z u:G)<(Z f:G):=aT o;have D:=yes ⟨O,O⟩;subst D;rw[b]at S k2;have Q:=yp p H.hp H.le f u O O h.aH.c c1.c c1.ne;rw[uF (RI H h.aH c1 cl).c.2]at Q;refine R (Ab J J S<|rc J J Q<|rc J J k2.fs<|ra J J J J J J J J J ?_ ?_<|j J<|bI<|kE<|cG<|k8<|kE<|FP (id:=10012000) cj J J)
     .show(_+_+(_+_)/4+192)*24<=_;omega
     .show(_+_)*1<=_;omega
    .have a:(Z u:G)>1:=aT a;have o:¬(Z u:G)<(Z f:G):=a4 o;refine rt J (hp:=aF)<|aS (n+1) ⟨O,next λs=>O⟩ (O:i-(n+1)<i-n)<|wk ⟨sR J,sR J,sR J,sE J ?_,A⟩ A;exact bK<|wrap_u64 _ O O
    .have a:¬(Z u:G)>1:=a4 a;refine rt J (hp:=aF)<|aS (n+1) ⟨O,next λs=>O⟩ (O:i-(n+1)<i-n)<|wk ⟨sR J,sR J,sR J,sE J ?_,A⟩ A;exact bK<|wrap_u64 _ O O
   .have P:(Z g:G)=1:=eq_of_beq P;rw[ao O]at t;refine j J<|c J (λ_=>cA<|rc J J m<|rc J J k<|j J<|eZ q<|wk ⟨sR J,sR J,sR J,sR J,sE J ?_,A⟩ A)<|λh=>eV;rw[t]
   .have P:(Z g:G)≠1:=m5 P;refine j J (c J (λa=>?_)<|λa=>?_)
    .have a:(Z g:G)=(Z f:G):=eq_of_beq a;rw[ao O]at t;refine cA<|rc J J m<|rc J J k<|j J<|eZ q<|wk ⟨sR J,sR J,sR J,sR J,sE J ?_,A⟩ A;rw[t]
    .have a:(Z g:G)≠(Z f:G):=m5 a;rw[w O]at t;refine c7<|eZ q<|wk ⟨sR J,sR J,sR J,sR J,sE J ?_,A⟩ A;rw[t]
end
section
variable{p:Y}(H:bp p)
open Classical in
noncomputable def oB(p:Y)(f:V G)(d:Y):V (V G):=if h:∃l,tJ p f l/\Z l+1<=Z f/\nC z 253 [N aq f,y d,cU p] 167 (.sl aq) l then Classical.choose h else[]
include H in
def ac4{f:V G}{d:Y}(e:1<=d)(g:d<=1000)(i:2*p^d<=18446744073709551616)(k:Z f<=200)(l:qU p f d)(m:2<=Z f):tJ p f (oB p f d)/\Z (oB p f d)+1<=Z f/\nC z 253 [N aq f,y d,cU p] 167 (.sl aq) (oB p f d):=by have a:=TA H e g i _ f (dJ _) k l m;unfold oB;rw[dif_pos a];exact uL a
structure lV where
 f:V G
 h:V G
 d:Y
 o:V (V G)
noncomputable def lV.w(x:lV):V G:=gX H x.f<|pk (fx x.h) p
noncomputable def lV.g(x:lV):V G:=fH p x.f<|aK<|fG (x.w H) [0,1] p
noncomputable def lV.q(x:lV):V G:=(aL x.f (x.g H) p).1
noncomputable def lV.next(x:lV):lV:=
 if 1<(x.g H).length then⟨x.q H,if 1<Z (x.q H)then(aL (x.w H) (x.q H) p).2 else x.w H,x.d+1,x.o++oB p (x.g H) x.d⟩else⟨x.f,x.w H,x.d+1,x.o⟩
noncomputable def xk:Y->lV->V (V G)
 |0,x=>x.o
 |a+1,x=>if Z x.f<=1 then x.o else if Z x.f<=2*x.d then x.o++[x.f]else xk a (x.next H)
structure np(p:Y)(F:V G)(x:lV):Prop where
 dg:Bp p x.f x.d
 d1:1<=x.d
 hc:bs p x.h
 hl:x.h.length<=200
 hx:(fx x.f:Fx p)∣fx x.h-pk X (p^(x.d-1))
 pt:∀g∈x.o,Mon p g/\2<=g.length/\bl (fx g:Fx p)
 pr:(fx F:Fx p)=gY p x.o*fx x.f
 fl:x.f.length<=F.length
 F2:F.length<=200
 Fm:Mon p F
def ac5(H:bp p):bs p [0,1]:=⟨λi=>match i with
  |0=>⟨gK _,H.pos⟩
  |1=>by have:=H.hp.1;show 0<=(1:G)/\(1:G)<p;omega
  |i+2=>⟨gK _,H.pos⟩,.inr (T:(1:G)≠0)⟩
def ac6:(fx [0,1]:Fx p)=X:=by rw[Hp,o4,zero_add,AT,mul_one]
include H in
def np.start{F:V G}(d:Mon p F)(e:pD (fx F:Fx p))(a:Z F<=200):np p F ⟨F,[0,1],1,[]⟩ where
 dg:=⟨d,e,λQ f _=>f.1⟩
 d1:=aW _
 hc:=ac5 H
 hl:=ax
 hx:=by rw[ac6,ma,oY,qE];exact o9 _ _
 pt:=λg i=>by cases i
 pr:=by rw[gY,one_mul]
 fl:=aW _
 F2:=a
 Fm:=d
variable{F:V G}{x:lV}
include H in
def np.ol(a:np p F x):Z x.o+Z x.f<=Z F:=by
 let ⟨e,h2⟩:=S8 H (l:=x.o) λg d=>⟨(a.pt g d).1,(a.pt g d).2.1⟩
 have:=dK H e<|a.dg.aH.jM H;rw[<-a.pr,cO a.Fm.c,cO a.dg.aH.c]at this;omega
def np.w(a:np p F x):bs p (x.w H)/\(x.w H).length<Z x.f/\(fx x.f:Fx p)∣fx (x.w H)-pk X (p^x.d):=by let ⟨m1,g,i⟩:=xe H a.dg.aH.c a.dg.aH.ne<|pk (fx x.h) p;refine⟨m1,g,og i ?_⟩;have h:=Ho a.hx p;obtain⟨k,e⟩:∃k,x.d=k+1:=⟨x.d-1,by have:=a.d1;omega⟩;rw[<-tj,e,eh,<-fp]at h;rw[e];exact h
def np.g(a:np p F x):qU p (x.g H) x.d/\Bp p (x.q H) (x.d+1)/\(fx (x.g H):Fx p)∣fx x.f:=by let ⟨i,k,e⟩:=a.w H;refine a.dg.step H a.d1 (kg H.pos<|Ax H.pos _ _) e ?_;rw[RF,ac6]
def np.next(a:np p F x)(hl:¬Z x.f<=2*x.d)(n:2*p^x.d<=18446744073709551616):np p F (x.next H)/\(x.next H).d=x.d+1:=by
 obtain⟨k,j,B⟩:=a.w H;obtain⟨l,i,P⟩:=a.g H;have C:=a.F2;have r:=a.fl;obtain⟨q1,q2,U,y⟩:=sc H a.dg.aH l.aH P;have z:=l.aH.pos;unfold lV.next;split
 .rename_i K;obtain⟨L,A,D⟩:=ac4 H a.d1 O n O l K;have s:(fx F:Fx p)=gY p (x.o++oB p (x.g H) x.d)*fx (x.q H):=by rw[HZ,L.prod,a.pr,q2,mul_assoc,mul_comm<|fx<|x.g H];rfl
  have t:∀g∈x.o++oB p (x.g H) x.d,Mon p g/\2<=Z g/\bl (fx g:Fx p):=λg W=>(aY.1 W).elim (a.pt g)<|L.parts g
  have b:Z (x.q H)+(x.g H).length=Z x.f+1:=U;have m:(fx (x.q H):Fx p)∣fx (x.w H)-pk X (p^x.d):=dvd_trans M7 B;refine⟨⟨i,Nj<|a8 _,?_,?_,?_,t,s,by show Z (x.q H)<=_;omega,C,a.Fm⟩,J⟩
  .dsimp only;split
   .exact(vn H k i.aH.c i.aH.ne).1
   .exact k
  .dsimp only;split
   .have:=(vn H k i.aH.c i.aH.ne).2.1;omega
   .omega
  .dsimp only;rw[eh];split
   .exact og (vn H k i.aH.c i.aH.ne).2.2 m
   .exact m
 .rename_i K;have u:(x.g H).length=1:=O;have h:sz (fx (x.g H):Fx p)=1:=by rw[cO l.aH.c,u]
  refine⟨⟨⟨a.dg.aH,a.dg.kS,λQ v n=>i.low Q v ?_⟩,Nj<|a8 _,k,by show(x.w H).length<=_;omega,?_,a.pt,a.pr,a.fl,C,a.Fm⟩,J⟩
  .rw[show(fx x.f:Fx p)=fx (x.q H)*fx (x.g H)from q2]at n;rcases v.na H n with e|e
   .exact e
   .have:=iK H e<|l.aH.jM H;have:=v.1;omega
  .show(fx x.f:Fx p)∣fx (x.w H)-pk X (p^(x.d+1-1));rw[eh];exact B
def ac7(s:∀d,2*d<Z F->2*p^d<=18446744073709551616):∀(k:Y)(x:lV),np p F x->Z x.f<x.d+k->tJ p F (xk H k x)
 |k,x,a,hN=>by
  have i:Z x.f<=1->tJ p F x.o:=λl=>by
   refine⟨a.pt,?_⟩;have t:=a.dg.aH;have m:=t.one;have v:=t.pos;have B:(fx x.f:Fx p)=1:=by
    rw[<-AT];congr 1;generalize x.f=C at*;match C,l,v,m with
    |[c],_,_,m=>rw[show c=1 from m]
   rw[a.pr,B,mul_one]
  cases k with
  |zero=>
   refine i<|eX λl=>?_
   let ⟨Q,q1,u⟩:=rR H _ (fx x.f:Fx p) (dJ _) (by rw[cO a.dg.aH.c];omega)
   have X:=a.dg.low Q q1 u
   have K:=iK H u<|a.dg.aH.jM H
   rw[cO a.dg.aH.c]at K
   omega
  |succ k=>
   rw[xk]
   split
   .rename_i l;exact i l
   .rename_i l;split
    .rename_i n;refine⟨λg L=>?_,?_⟩
     .rcases aY.1 L with e|e
      .exact a.pt g e
      .rw[iU.1 e];exact⟨a.dg.aH,O,a.dg.fI H O n⟩
     .rw[HZ,a.pr];show _*(_*_)=_;rw[gY,mul_one]
    .rename_i n;have b:=a.fl;let ⟨P,h⟩:=a.next H n<|s _ O;refine ac7 s k _ P ?_;have j:(x.next H).f.length<=Z x.f:=by
      unfold lV.next;split
      .let ⟨U,_,W⟩:=a.g H;have:Z (x.q H)+(x.g H).length=Z x.f+1:=(sc H a.dg.aH U.aH W).2.2.1;show Z (x.q H)<=_;omega
      .exact aW _
     omega
include H in
def np.dlt(a:np p F x)(i:1<Z x.f):x.d<Z x.f:=by let ⟨Q,q1,e⟩:=rR H _ (fx x.f:Fx p) (dJ _) (by rw[cO a.dg.aH.c];omega);have k:=a.dg.low Q q1 e;have g:=iK H e<|a.dg.aH.jM H;rw[cO a.dg.aH.c]at g;omega
def aoi(hF:Mon p F)(hs:pD (fx F:Fx p))(t:Z F<=200)(P:∀d,2*d<Z F->2*p^d<=18446744073709551616):r z 205 [N aq F,cU p] (N (.sl aq)<|xk H (Z F) ⟨F,[0,1],1,[]⟩):=by
 refine aJ Tryz.func205 ?_;have Ib:=H.hp.1;have T:=H.le;have I0:=np.start H hF hs t;generalize hR:xk H (Z F) ⟨F,[0,1],1,[]⟩=V at*;refine I J<|R<|fM (.sl aq) [] J J (j J<|R<|rl aq [0,1] J J (j J<|I J<|M<|I J ?_));refine ay<|bf (α:=Y×lV) (λk=>⟨[(0,N aq k.2.f),(1,cU p),(5,.c<|.X 1000000),(6,N aq [0,1]),(7,N aq k.2.h),(8,y k.2.d)],[(1000000,.vec 167 (.sl aq) k.2.o)],5,[]⟩) (λk=>np p F k.2/\Z k.2.f<k.2.d+k.1/\xk H k.1 k.2=V) (λk=>k.1) (Z F,⟨F,[0,1],1,[]⟩) ⟨I0,(O:Z F<1+Z F),hR⟩ aU ?_;rintro⟨Q,x⟩ ⟨e,hN,a⟩;simp only at e hN a;have ol:=e.ol H;have d1:=e.d1;have fl:=e.fl;refine M<|I J<|c J (λh=>?_)<|λh=>?_
 .have h:1<Z x.f:=by have h:(Z x.f:G)>1:=aT h;omega
  have hdl:=e.dlt H h;obtain⟨l,rfl⟩:∃l,Q=l+1:=⟨Q-1,O⟩;rw[xk,w O]at a;refine aD<|M<|ay<|M<|I J (hp:=aF)<|c J (λu=>?_)<|λu=>c7<|aI ?_
  .have u:2*(x.d:G)>=(Z x.f:G):=aT u;rw[ao O]at a;refine R (rl (.sl aq) [x.f] J J (ra J J J J J J J J J ?_ ?_<|j J<|c8 7003000 J J J<|bI ?_))
   .show(Z x.o+1+(Z x.o+1)/4+192)*24<=_;omega
   .show(Z x.o+1)*1<=_;omega
   repeat(first|refine cG ?_|refine kE ?_|refine k8 ?_)
   rw[<-a];exact eB J J
  .have u:¬2*(x.d:G)>=(Z x.f:G):=a4 u;rw[w O]at a;have P:=P x.d O;let ⟨w1,w2,w3⟩:=e.w H;let ⟨U,g2,g3⟩:=e.g H;let ⟨m,n2⟩:=e.next H O P;let ⟨q1,q2,q3,q4⟩:=sc H e.dg.aH U.aH g3;have i:(x.next H).f.length<(x.next H).d+l:=by
    rw[n2];have hq:(x.next H).f.length<=Z x.f:=by
     unfold lV.next;split
     .have:Z (x.q H)+(x.g H).length=Z x.f+1:=q3;show Z (x.q H)<=_;omega
     .exact aW _
    omega
   have v:=Nh H x.f x.h p O e.dg.aH.c e.dg.aH.ne e.hc e.hl O;have W:=Gz (x.w H) [0,1] p O ax O O w1.1 (ac5 H).1;have B:=oc<|fG (x.w H) [0,1] p;rw[K0]at B;have C:=Di p H.hp H.le x.f (aK<|fG (x.w H) [0,1] p) O (by simp at B;omega) e.dg.aH.c<|kg H.pos<|Ax H.pos _ _;have n:=yp p H.hp H.le x.f (x.g H) O O e.dg.aH.c U.aH.c U.aH.ne;rw[uF q1.c.2]at n;have b:gX H x.f (pk (fx x.h) p)=x.w H:=rfl;have D:fH p x.f (aK<|fG (x.w H) [0,1] p)=x.g H:=rfl;have E:(aL x.f (x.g H) p).1=x.q H:=rfl;rw[b]at v;rw[D]at C;rw[E]at n q3;refine bw J J v J<|R<|rc J J W<|rc J J C<|j J<|I J<|c J (λK=>?_)<|λK=>?_
   .have K:((x.g H).length:G)>1:=aT K;let ⟨e1,e2,e3⟩:=ac4 H d1 O P O U O;have s:x.next H=⟨x.q H,if 1<Z (x.q H)then(aL (x.w H) (x.q H) p).2 else x.w H,x.d+1,x.o++oB p (x.g H) x.d⟩:=by unfold lV.next;rw[ao O]
    rw[s]at a m i;refine R<|rc J J e3.fs<|ra J J J J J J J J J ?_ ?_<|j J<|bw J J n J<|I J<|c J (λL=>?_)<|λL=>?_
    .show(Z x.o+Z (oB p (x.g H) x.d)+(Z x.o+Z (oB p (x.g H) x.d))/4+192)*24<=_;omega
    .show(Z x.o+Z (oB p (x.g H) x.d))*1<=_;omega
    .have L:(Z (x.q H):G)>1:=aT L;rw[ao O]at a m i;have S:=rN p H.hp H.le (x.w H) (x.q H) O O w1 g2.aH.c g2.aH.ne;refine cA<|rc J J S<|j J<|eL<|aI<|rt J (hp:=aF)<|aS (l,⟨x.q H,(aL (x.w H) (x.q H) p).2,x.d+1,x.o++oB p (x.g H) x.d⟩) ⟨m,i,a⟩ (dJ l)<|Wk.trans (wk (st':=⟨[(0,N aq<|x.q H),(1,cU p),(5,.c<|.X 10005000),(6,N aq [0,1]),(7,N aq (aL (x.w H) (x.q H) p).2),(8,y ((x.d+1:Y):G))],[(10005000,.vec 167 (.sl aq)<|x.o++oB p (x.g H) x.d)],16,[]⟩) (bJ J) ⟨bR J,A⟩)<|Wk.trans (gw 1000000 10005000 J J J) aU
    .have L:¬(Z (x.q H):G)>1:=a4 L;rw[w O]at a m i;refine c7<|eL<|aI<|rt J (hp:=aF)<|aS (l,⟨x.q H,x.w H,x.d+1,x.o++oB p (x.g H) x.d⟩) ⟨m,i,a⟩ (dJ l)<|Wk.trans (wk (st':=⟨[(0,N aq<|x.q H),(1,cU p),(5,.c<|.X 10005000),(6,N aq [0,1]),(7,N aq<|x.w H),(8,y ((x.d+1:Y):G))],[(10005000,.vec 167 (.sl aq)<|x.o++oB p (x.g H) x.d)],16,[]⟩) (bJ J) ⟨bR J,A⟩)<|Wk.trans (gw 1000000 10005000 J J J) aU
   .have K:¬((x.g H).length:G)>1:=a4 K;have s:x.next H=⟨x.f,x.w H,x.d+1,x.o⟩:=by unfold lV.next;rw[w O]
    rw[s]at a m i;exact c7<|bH<|rt J (hp:=aF)<|aS (l,⟨x.f,x.w H,x.d+1,x.o⟩) ⟨m,i,a⟩ (dJ l) aU
 .have h:¬(Z x.f:G)>1:=a4 h;have a:x.o=V:=by
   cases Q with
   |zero=>exact a
   |succ Q=>rwa[xk,ao O]at a
  refine bh<|aI<|c8 1000000 J J J<|I J<|bI ?_;rw[<-a];exact eB J J
end
end Go.El
