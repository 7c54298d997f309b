/- Plain: the search for factors among the products of lifted factors. Own work; no condition. -/
import Derived.RangeFuncOwn
import Derived.RangeFuncLeaves
import Derived.Scope
import Derived.Test.YtkkccchkmcjcpaaGreatV11
import Derived.Test.YtkkccchkmcjcpaaGreatV10
import Derived.Test.YtkkccchkmcjcpaaGreatV5
import Derived.Test.YtkkccchkmcjcpaaGreatV3
import Derived.Test.YtkkccchkmcjcpaaGreatV4
set_option linter.all false
set_option maxHeartbeats 16000000
set_option maxRecDepth 100000
open Bool renaming true->ae,false->ah
open Classical renaming choose->wm
open Go renaming Program->cT,Value->bH,World->da,KeepsOthers->Um
open Go.Builtin renaming copy_->acV
open Go.El renaming rr->e,cS->N,vL->q,gy->L,cI->D,re->o,auI->z,rb->t,kZ->w,ps->h
open Go.Exit renaming inBlock->Ga
open Go.Proofs.Tryz renaming prog->j
open Go.World renaming putObj_heap_other->Un,putObj_heap_same->ao1
open Go.stepG renaming exec->aoR
open Int renaming toNat->ad
open List renaming range->be,length->G,getD->Y,replicate->bh,take->y,map->Ui,range'->ac9
open Nat renaming testBit->mO
open _root_ renaming Nat->I,Rat->O,List->V,Int->Z
namespace Go.El
open Go Go.Proofs Go.RowKit
namespace Rx
def acJ{F a B}(f:Mo F)(b:F=a*B)(x:sz a≠1)(E:sz B≠1):∃g v,Mo g/\Mo v/\F=g*v/\2<=sz g/\2<=sz v:=by
 have i:a≠0:=λk=>f.ne (by rw[b,k,zero_mul])
 have l:B≠0:=λk=>f.ne (by rw[b,k,mul_zero])
 let ⟨c,hc,hm⟩:=Tc i;have m:F=(K c⁻¹ *B)*(K c*a):=by have n:K c⁻¹ *B*(K c*a)=(K c⁻¹ *K c)*(a*B):=eT;rw[n,ov hc,one_mul,<-b]
 have p:Mo (K c⁻¹ *B):=by rw[m]at f;exact f.zO hm
 have C:=dX i;have H:=dX l;have r:=dE (ts hc) i;have d:c⁻¹ ≠0:=λb=>by have:=pW _ hc;rw[b,tG]at this;exact absurd this A
 have s2:=dE (ts d) l;rw[tA hc]at r;rw[tA d]at s2;exact⟨K c*a,K c⁻¹ *B,hm,p,by rw[m,mul_comm],S,S⟩
def T5{c v}(l:Mo c)(m:Mo v)(n:ef (c*v)):ef c/\ef v:=by
 let ⟨a,ha⟩:=IC c;let ⟨b,g⟩:=IC v;have one:∀f:Rx,K ((1:I):O)*f=f:=λf=>one_mul f
 have p:Dn (c*v) 1:=⟨A,by rw[one];exact n,λd _=>Nat.one_dvd d⟩;have e:=abF l m ha g p;have r:a=1:=Il.1 ⟨b,e⟩;have x:b=1:=Il.1 ⟨a,by rw[fR];exact e⟩;subst r x;have i:=ha.int;have k:=g.int;rw[one]at i k;exact⟨i,k⟩
def o8:V (V Z)->Rx
 |[]=>1
 |f::l=>zx f*o8 l
end Rx
open Fx
def bJ(b:I->Bool):I->I
 |0=>0
 |n+1=>bJ b n+(if b n then 1 else 0)
def IV{b c:I->Bool}:∀{n:I},(∀i,i<n->b i=c i)->bJ b n=bJ c n
 |0,_=>rfl
 |n+1,a=>by rw[bJ,bJ,IV<|λi d=>a i S,a n S]
def acK{b c:I->Bool}:∀{n:I},(∀i,i<n->b i=ae->c i=ae)->bJ b n<=bJ c n
 |0,_=>a8 _
 |n+1,a=>by
  have g:=acK (n:=n) λi k=>a i S
  have d:=a n S;rw[bJ,bJ];cases f:b n
  .simp only[jQ,cC];omega
  .rw[d f];simp only[cA];omega
def T6{b c:I->Bool}:∀{n:I},(∀i,i<n->b i=ae->c i=ae)->(∃i,i<n/\b i=ah/\c i=ae)->bJ b n<bJ c n
 |0,_,⟨i,a,_⟩=>absurd a S
 |n+1,a,⟨i,m,h2,d⟩=>by
  rw[bJ,bJ];by_cases f:i=n
  .subst f;have:=acK (n:=i) λj g=>a j S
   rw[h2,d];simp;omega
  .have p:=T6 (n:=n) (λj g=>a j S) ⟨i,S,h2,d⟩;have k:=a n S;cases l:b n
   .simp only[jQ,cC];omega
   .rw[k l];simp only[cA];omega
def T7(b:I->Bool):∀n,bJ b n+bJ (λi=> !b i) n=n
 |0=>rfl
 |n+1=>by have:=T7 b n;rw[bJ,bJ];cases b n<;>simp<;>omega
def acL{b:I->Bool}:∀{n:I},0<bJ b n->∃i,i<n/\b i=ae
 |0,h=>absurd h (by simp[bJ])
 |n+1,h=>by
  cases a:b n
  .rw[bJ,a]at h;obtain⟨i,d,c⟩:=acL (n:=n) du;exact⟨i,S,c⟩
  .exact⟨n,S,a⟩
def T8{b:I->Bool}{n i}(a:i<n)(d:b i=ae):0<bJ b n:=by have:=T6 (b:=λ_=>ah) (c:=b) (n:=n) (λj _ f=>by cases f) ⟨i,a,J,d⟩;omega
def pZ(b:I->Bool):I->I
 |0=>0
 |n+1=>(if b n then 2^n else 0)+pZ b n
def NN(b:I->Bool):∀n,pZ b n<2^n
 |0=>Nat.one_pos
 |n+1=>by have:=NN b n;rw[pZ,fy];split<;>omega
def T9(b:I->Bool):∀{n i:I},i<n->mO (pZ b n) i=b i
 |0,_,a=>absurd a S
 |n+1,i,a=>by
  rw[pZ];by_cases f:i=n
  .subst f;have c:=Nat.testBit_lt_two_pow<|NN b i;cases g:b i
   .simp only[jQ,cC,dU];exact c
   .simp only[cA];rw[Nat.testBit_two_pow_add_eq,c];rfl
  .have d:=T9 b (n:=n) (i:=i) S;cases g:b n
   .simp only[jQ,cC,dU];exact d
   .simp only[cA];rw[Nat.testBit_two_pow_add_gt S];exact d
def vg(n a:I):V I:=(be<|2^n).filter λS=>bJ S.testBit n==a
def fW(n:I):V I:=(be<|n/2).flatMap λs=>vg n<|s+1
def si{n a}:a∈fW n↔a<2^n/\1<=bJ a.testBit n/\bJ a.testBit n<=n/2:=by
 unfold fW vg;simp only[jF,jO,sJ,beq_iff_eq];constructor
 .rintro⟨s,b,c,d⟩;omega
 .rintro⟨b,c,d⟩;exact⟨bJ a.testBit n-1,S,b,S⟩
def aoj n:(fW n).Pairwise (λx a=>bJ x.testBit n<=bJ a.testBit n):=by
 have c:∀k,((be k).flatMap λs=>vg n<|s+1).Pairwise (λx a=>bJ x.testBit n<=bJ a.testBit n):=by
  intro k;induction k with
  |zero=>exact .nil
  |succ k f=>
   rw[nE,uC]
   refine tD.2 ⟨f,?_,λx b a d=>?_⟩
   .simp only[mm,NO,iW];refine Ea ?_ (List.pairwise_of_forall (R:=λ_ _=>True) (λ_ _=>trivial):(vg n<|k+1).Pairwise λ_ _=>True);intro x a b d _;simp only[vg,sJ,beq_iff_eq]at b d;omega
   .simp only[jF,jO,mm,NO,iW,vg,sJ,beq_iff_eq]at b d;let ⟨s,g,h2,i⟩:=b;omega
 exact c _
structure gL(p:I)(m:Z)(a:V Z)(l:V (V Z)):Prop where
 H:aX p
 pm:∃e,1<=e/\m=(p:Z)^e
 am:aG a
 lm:∀f∈l,aG f
 fq:∀f∈l,bw (fx f:Fx p)
 pair:l.Pairwise (λx b=>Co (fx x:Fx p)<|fx b)
 pr:Cg m (h a) (jB l)
 jN:jz (fx a:Fx p)
 len:a.length=1+b7 l
 bd:∀g,aG g->Rx.zx g∣Rx.zx a->∀i,2*((g.getD i 0).natAbs:Z)<m
section
variable{p:I}{m:Z}{a:V Z}{l:V (V Z)}
def gL.m1(b:gL p m a l):1<m/\(p:Z)∣m:=by obtain⟨e,d,rfl⟩:=b.pm;have f:=b.H.hp.1;obtain⟨e,rfl⟩:∃c,e=c+1:=⟨e-1,S⟩;have g:(0:Z)<(p:Z)^e:=kV S;rw[dK];refine⟨?_,B1 _ _⟩;have i:=iU (S:(1:Z)<=(p:Z)^e) (S:(0:Z)<=p);omega
def gL.co(k:gL p m a l){i b}(c:i<G l)(d:b<G l)(f:i≠b):Co (fx (l.getD i []):Fx p) (fx<|l.getD b []):=by
 have g:=vi.1 k.pair;rw[aF,aF,bD c,bD d];rcases Nj f with e|e
 .exact g i b c d e
 .exact(g b i d c e).symm
def gL.IW(c:gL p m a l){i}(b:i<G l):l.getD i []∈l:=by rw[aF,bD b];exact j6 b
def acM{Q:Fx p}(H:aX p)(b:bw Q):∀{l:V (V Z)},Q∣fj l->∃f∈l,Q∣fx f
 |[],c=>absurd c<|b.uU H
 |f::l,c=>by
  rcases b.nq H c with d|d
  .exact⟨f,ax,d⟩
  .let ⟨x,h1,h2⟩:=acM H b d;exact⟨x,zA,h2⟩
def gL.aok(c:gL p m a l)(b:I->Bool):(fx (gS m l b):Fx p)=fj (bg b 0 l):=by let ⟨d,h2⟩:=c.m1;rw[<-yj (bg b 0 l) m h2];refine Ma<|Cg.of λi=>?_;rw[cc,cc,gS,m0 _ S,<-qZ _ h2,tR S,qZ _ h2]
def gL.B2(c:gL p m a l)(b:I->Bool):aG (gS m l b)/\G (gS m l b)=1+b7 (bg b 0 l):=by let ⟨d,h2⟩:=c.m1;let ⟨g,i⟩:=wF d yi (λf k=>c.lm f (tS k):∀f∈bg b 0 l,aG f);refine⟨wE d g,?_⟩;rw[gS,cL,i];rfl
def gL.acN(c:gL p m a l)(b:I->Bool){g}(k:g<G l):(fx (l.getD g []):Fx p)∣fx (gS m l b)↔b g=ae:=by
 rw[c.aok];constructor
 .intro x;let ⟨f,d,B⟩:=acM c.H (c.fq _<|c.IW k) x;let ⟨i,h2,r,C⟩:=IU d;rw[dU]at r;by_cases e:g=i
  .rw[e];exact r
  .have v:=c.co k h2 e;rw[C]at v;have:=v.unit c.H B;have:=(c.fq _<|c.IW k).1;omega
 .intro E;have:=T4 (b:=b) (l:=l) (i:=0) (j:=g) k (by rw[dU];exact E);have n:∀{l:V (V Z)}{f:V Z},f∈l->(fx f:Fx p)∣fj l:=by
   intro l;induction l with
   |nil=>intro f d;cases d
   |cons y l F=>
    intro f d
    rcases df.1 d with rfl|d
    .exact dvd_mul_right _ _
    .exact dz (F d) _
  exact n this
def B3{b c:I->Bool}:∀{l:V (V Z)}{i:I},(∀d,d<G l->b (i+d)=c (i+d))->bg b i l=bg c i l
 |[],_,_=>rfl
 |f::l,i,g=>by
  have k:=B3 (b:=b) (c:=c) (l:=l) (i:=i+1) λd n=>by have:=g (d+1) bP;rwa[(S:i+(d+1)=i+1+d)]at this
  rw[bg,bg,k];have:=g 0 ax;rw[jE]at this;rw[this]
def Ua{x b c}(d:h x*h b=h c):(fx c:Fx p)=fx x*fx b:=(mk_congr d ((aU.ps p x).mul<|aU.ps p b)<|aU.ps p c).symm
def gL.mask(n:gL p m a l){g k}(F:aG g)(hk:aG k)(bZ:Rx.zx a=Rx.zx g*Rx.zx k):
  ∃b:I->Bool,g=gS m l b/\k=gS m l (λi=> !b i)/\(∀d,d<G l->(b d=ae↔(fx (l.getD d []):Fx p)∣fx g))/\Cg m (h g) (jB<|bg b 0 l)/\Cg m (h k) (jB<|bg (λi=> !b i) 0 l):=by
 let ⟨K,v⟩:=n.m1
 have H:=n.H
 have P:(1:Z)<p:=qM
 have R:=Rx.ND bZ.symm
 have x:(fx a:Fx p)=fx g*fx k:=Ua R
 classical
 let b:I->Bool:=λd=>decide<|(fx (l.getD d []):Fx p)∣fx g
 have hb:∀d,b d=ae↔(fx (l.getD d []):Fx p)∣fx g:=λd=>decide_eq_true_iff
 have B:∀c:I->Bool,∀f∈bg c 0 l,aG f:=λc f r=>n.lm f<|tS r
 have d1:(fj (bg b 0 l):Fx p)∣fx g:=T3 H (IT n.pair) λf r=>by let ⟨d,_,h2,h3⟩:=IU r;rw[dU]at h2;rw[<-h3];exact(hb d).1 h2
 have eA:(fx a:Fx p)=fj l:=by rw[vf];refine mk_eq.2<|Cg.of λi=>?_;have:=n.pr.at i;rw[<-qZ _ v,this,qZ _ v]
 have U:∀{l:V (V Z)}{f:V Z},f∈l->(fx f:Fx p)∣fj l:=by
  intro l;induction l with
  |nil=>intro f r;cases r
  |cons y l ih=>
   intro f r
   rcases df.1 r with rfl|r
   .exact dvd_mul_right _ _
   .exact dz (ih r) _
 have d2:(fj (bg (λi=> !b i) 0 l):Fx p)∣fx k:=T3 H (IT n.pair) λf r=>by
  let ⟨d,C,h2,h3⟩:=IU r;rw[dU]at h2;have W:=n.IW C;rw[<-h3];have hd:(fx (l.getD d []):Fx p)∣fx g*fx k:=by rw[<-x,eA];exact U W
  rcases(n.fq _ W).nq H hd with e1|e1
  .rw[(hb d).2 e1]at h2;cases h2
  .exact e1
 have e2:(fj (bg b 0 l)*fj (bg (λi=> !b i) 0 l):Fx p)=fj l:=by rw[vf,vf,vf,Zh];exact mk_congr (T2 b l 0) _ _
 let ⟨w,hw⟩:=d1
 let ⟨X,E⟩:=d2
 have o:(fx a:Fx p)≠0:=λq=>by have C:=pY H n.am;rw[q,kd H.pos]at C;have:=bX.2 n.am.1;omega
 have ww:w*X=1:=by refine qN H (A:=(fj l:Fx p)) (by rw[<-eA];exact o) ?_;rw[one_mul,<-e2];have e3:w*X*(fj (bg b 0 l)*fj (bg (λi=> !b i) 0 l))=w*fj (bg b 0 l)*(X*fj (bg (λi=> !b i) 0 l)):=eT;rw[e3,<-hw,<-E,<-x,eA,e2]
 have sw:sz w=1:=xY H (by rw[mul_comm];exact ww:X*w=1)
 have sw':sz X=1:=xY H ww
 let ⟨s,tl1⟩:=wF P yi<|B b
 let ⟨u,tl2⟩:=wF P yi<|B λi=> !b i
 have eg:(fx g:Fx p)=fj (bg b 0 l):=by have hp:=yj (p:=p) (bg b 0 l) p<|EM _;rw[<-hp]at hw⊢;exact acI H F s sw hw
 have ek:(fx k:Fx p)=fj (bg (λi=> !b i) 0 l):=by have hp:=yj (p:=p) (bg (λi=> !b i) 0 l) p<|EM _;rw[<-hp]at E⊢;exact acI H hk u sw' E
 have lg:G g=1+b7 (bg b 0 l):=by have C:=pY H F;rw[eg,<-yj (p:=p) (bg b 0 l) p (EM _),pY H s,tl1]at C;rw[<-C];rfl
 have lk:G k=1+b7 (bg (λi=> !b i) 0 l):=by have C:=pY H hk;rw[ek,<-yj (p:=p) (bg (λi=> !b i) 0 l) p (EM _),pY H u,tl2]at C;rw[<-C];rfl
 let ⟨um1,z⟩:=wF K yi<|B b
 let ⟨um2,D⟩:=wF K yi<|B λi=> !b i
 have c1:Cg p (h g) (h<|iG m [1] (bg b 0 l)):=mk_eq.1 (eg.trans (yj (bg b 0 l) m v).symm:Fx.mk (h g) (aU.ps p g)=Fx.mk (h<|iG m [1] (bg b 0 l)) (aU.ps p _))
 have c2:Cg p (h k) (h<|iG m [1] (bg (λi=> !b i) 0 l)):=mk_eq.1 (ek.trans (yj (bg (λi=> !b i) 0 l) m v).symm:Fx.mk (h k) (aU.ps p k)=Fx.mk (h<|iG m [1] (bg (λi=> !b i) 0 l)) (aU.ps p _))
 have Ub:Co (fx g:Fx p) (fx k):=xZ H (λq=>o<|by rw[x,q,zero_mul]) λQ hQ q1 q2=>n.jN Q hQ (by rw[x];exact tx q1 q2)
 have L:MD (G g-1) (h<|iG m [1] (bg b 0 l)):=by have:=um1.q6;rwa[z,show G ([1]:V Z)=1 from J,<-lg]at this
 have M:MD (G k-1) (h<|iG m [1] (bg (λi=> !b i) 0 l)):=by have:=um2.q6;rwa[D,show G ([1]:V Z)=1 from J,<-lk]at this
 let ⟨q,he1,N⟩:=n.pm
 have t1:=NM m (bg b 0 l) [1]
 have t2:=NM m (bg (λi=> !b i) 0 l) [1]
 rw[zt,PS.one_mul]at t1 t2
 have Uc:Cg m (h g*h k) (h (iG m [1] (bg b 0 l))*h (iG m [1] (bg (λi=> !b i) 0 l))):=by rw[R];refine n.pr.trans ?_;rw[<-T2 b l 0];exact(t1.mul t2).symm
 have O:=TZ H F.q6 L hk.q6 M Ub c1 c2 q he1<|N▸Uc
 rw[<-N]at O
 have T:∀{g:V Z}{t:V Z},aG g->Rx.zx g∣Rx.zx a->G g=G t->Cg m (h g) (h t)->g=t.map (cp · m):=by
  intro g t F hd hl hc;refine sd (by rw[cL,hl]) λd _=>?_
  rw[m0 _ S,<-EL (a:=Y g d 0) (b:=Y t d 0) (hc.at d)];exact(aoi<|n.bd g F hd d).symm
 refine⟨b,T F (by rw[bZ];exact Rx.dvd_mul_right _ _) (by rw[z,lg];rfl) O.1,T hk (by rw[bZ];exact Rx.dvd_mul_left _ _) (by rw[D,lk];rfl) O.2,λd _=>hb d,O.1.trans t1,O.2.trans t2⟩
def gL.acO(c:gL p m a l){b:I->Bool}(k:0<bJ b (G l)):1<=b7 (bg b 0 l):=by
 let ⟨j,d,h2⟩:=acL k;have n:=T4 (b:=b) (l:=l) (i:=0) d (by rw[dU];exact h2);have r:=(c.fq _<|c.IW d).1;rw[pY c.H (c.lm _<|c.IW d)]at r;have f:∀{L:V (V Z)},l.getD j []∈L->1<=b7 L:=by
  intro L;induction L with
  |nil=>intro g;cases g
  |cons y L v=>
   intro g
   rw[b7]
   rcases df.1 g with e|e
   .rw[<-e];omega
   .have:=v e;omega
 exact f n
def gL.wa(r:gL p m a l){b v}(c:Rx.Mo b)(d:Rx.Mo v)(i:Rx.zx a=b*v):∃g k,aG g/\aG k/\Rx.zx g=b/\Rx.zx k=v:=by let ⟨i1,i2⟩:=Rx.T5 c d<|i▸Rx.B0 a;let ⟨g,n,g2⟩:=Rx.NB i1;let ⟨k,k1,f⟩:=Rx.NB i2;exact⟨g,k,Rx.NC n<|g2▸c,Rx.NC k1<|f▸d,g2,f⟩
def gL.first(f:gL p m a l){d}(hS:d∈fW (G l))(hd:Rx.zx (gS m l d.testBit)∣Rx.zx a)(hf:∀dR∈fW (G l),bJ dR.testBit (G l)<bJ d.testBit (G l)->¬Rx.zx (gS m l dR.testBit)∣Rx.zx a):Rx.bw (Rx.zx<|gS m l d.testBit):=by
 let ⟨_,O,Y⟩:=si.1 hS;let ⟨H,gl⟩:=f.B2 d.testBit;have hdp:=f.acO (b:=d.testBit) S;refine⟨by rw[Rx.jZ H.can];omega,λnZ B e=>dQ λt=>?_⟩;let ⟨u,v,hu,K,P,su,sv⟩:=Rx.acJ (Rx.mZ H) e (λf=>t<|.inl f)<|λf=>t<|.inr f;let ⟨k,w⟩:=hd;have R:Rx.Mo k:=by have:=Rx.mZ f.am;rw[w]at this;exact this.zO<|Rx.mZ H
 have U:Rx.zx a=u*(k*v):=by rw[w,P];ac_rfl
 let ⟨r,k',D,k1,g2,k2⟩:=f.wa hu (R.mul K) U;let ⟨b,J,b2,b3,_⟩:=f.mask D k1 (by rw[g2,k2];exact U);have W:∃x,aG x/\Rx.zx x=v:=by let ⟨_,i2⟩:=Rx.T5 hu K<|P▸Rx.B0 _;let ⟨x,v1,v2⟩:=Rx.NB i2;exact⟨x,Rx.NC v1<|v2▸K,v2⟩
 let ⟨x,_,v2⟩:=W;have X:(fx (gS m l d.testBit):Fx p)=fx r*fx x:=Ua (Rx.ND<|by rw[g2,v2];exact P.symm);have sub:∀i,i<G l->b i=ae->mO d i=ae:=λi Q C=>(f.acN d.testBit Q).1 (by rw[X];exact lQ ((b3 i Q).1 C) _)
 have n:G r=1+b7 (bg b 0 l):=by rw[J];exact(f.B2 b).2
 have sg':Rx.sz u=G r:=by rw[<-g2,Rx.jZ D.can]
 have o:G r<G (gS m l d.testBit):=by have:=Rx.dE hu.ne K.ne;rw[<-P,Rx.jZ H.can]at this;omega
 have q:∃i,i<G l/\b i=ah/\mO d i=ae:=dQ λs=>by
  have:bg b 0 l=bg d.testBit 0 l:=B3 λj E=>by
   rw[dU];cases C:b j
   .cases hs:mO d j
    .rfl
    .exact absurd ⟨j,E,C,hs⟩ s
   .exact(sub j E C).symm
  rw[n,this]at o;omega
 have sM:=T6 sub q;have Gs:0<bJ b (G l):=by
  rcases qF (bJ b<|G l)with N|N
  .have:bg b 0 l=bg (λ_=>ah) 0 l:=B3 λj E=>by
    rw[dU];cases C:b j
    .rfl
    .have:=T8 E C;omega
   have z:∀(L:V (V Z))(i:I),bg (λ_=>ah) i L=[]:=by
    intro L;induction L with
    |nil=>intro i;rfl
    |cons y L ih=>intro i;rw[bg,M A,ih]
   rw[this,z]at n;have:G r=1:=n;omega
  .exact N
 have g:∀i,i<G l->mO (pZ b<|G l) i=b i:=λi Q=>T9 b Q
 have NP:bJ (pZ b<|G l).testBit (G l)=bJ b (G l):=IV g;have F:gS m l (pZ b<|G l).testBit=r:=by rw[J,gS,gS,B3 (b:=(pZ b<|G l).testBit) (c:=b) λj E=>by rw[dU];exact g j E]
 refine hf (pZ b<|G l) (si.2 ⟨NN b _,S,S⟩) S ?_;rw[F,g2,U];exact Rx.dvd_mul_right _ _
def gL.none(d:gL p m a l)(hl:l≠[])(hf:∀dR∈fW (G l),¬Rx.zx (gS m l dR.testBit)∣Rx.zx a):Rx.bw (Rx.zx a):=by
 have C:=bX.2 hl;have n:=d.acO (b:=λ_=>ae)<|T8 (i:=0) C J;have N:∀(L:V (V Z))(i:I),bg (λ_=>ae) i L=L:=by
  intro L;induction L with
  |nil=>intro i;rfl
  |cons y L E=>intro i;rw[bg,s J,E]
 rw[N]at n;have P:=d.len;refine⟨by rw[Rx.jZ d.am.can];omega,λnZ B e=>dQ λQ=>?_⟩;let ⟨u,v,hu,O,r,R,U⟩:=Rx.acJ (Rx.mZ d.am) e (λd=>Q<|.inl d)<|λd=>Q<|.inr d;let ⟨g,k,W,k1,g2,F⟩:=d.wa hu O r;let ⟨b,X,o,b3,_⟩:=d.mask W k1 (by rw[g2,F];exact r);have pos:∀{c:I->Bool}{x:V Z},x=gS m l c->2<=G x->0<bJ c (G l):=by
  intro c x H h2;rcases qF (bJ c<|G l)with q|q
  .have Y:bg c 0 l=bg (λ_=>ah) 0 l:=B3 λj K=>by
    rw[dU];cases hb:c j
    .rfl
    .have:=T8 K hb;omega
   have z:∀(L:V (V Z))(i:I),bg (λ_=>ah) i L=[]:=by
    intro L;induction L with
    |nil=>intro i;rfl
    |cons y L E=>intro i;rw[bg,M A,E]
   have t:=(d.B2 c).2;rw[<-H,Y,z]at t;have:G x=1:=t;omega
  .exact q
 have p1:=pos X (by rw[<-g2,Rx.jZ W.can]at R;exact R);have p2:=pos o (by rw[<-F,Rx.jZ k1.can]at U;exact U);have w:=T7 b<|G l;have D:∀(c:I->Bool)(x:V Z),x=gS m l c->0<bJ c (G l)->bJ c (G l)<=G l/2->Rx.zx x∣Rx.zx a->False:=by
  intro c x H hp hle hd;have f:∀i,i<G l->mO (pZ c<|G l) i=c i:=λi hi=>T9 c hi
  have NP:bJ (pZ c<|G l).testBit (G l)=bJ c (G l):=IV f;refine hf (pZ c<|G l) (si.2 ⟨NN c _,S,S⟩) ?_;rw[show gS m l (pZ c<|G l).testBit=x by rw[H,gS,gS,B3 (b:=(pZ c<|G l).testBit) (c:=c) λj K=>by rw[dU];exact f j K]];exact hd
 by_cases hh:bJ b (G l)<=G l/2
 .exact D b g X p1 hh (by rw[g2,r];exact Rx.dvd_mul_right _ _)
 .exact D _ k o p2 S (by rw[F,r];exact Rx.dvd_mul_left _ _)
end
open Classical in
noncomputable def j0(a g:V Z):V Z:=if h:∃q,aG q/\Rx.zx a=Rx.zx g*Rx.zx q then wm h else[]
open Classical in
noncomputable def o9(m:Z)(a:V Z)(l:V (V Z)):Option I:=(fW<|G l).find? λS=>decide<|Rx.zx (gS m l S.testBit)∣Rx.zx a
noncomputable def me(m:Z):I->V Z->V (V Z)->V (V Z)
 |0,a,_=>[a]
 |k+1,a,l=>match o9 m a l with
  |some b=>gS m l b.testBit::me m k (j0 a<|gS m l b.testBit) (bg (λi=> !b.testBit i) 0 l)
  |none=>[a]
open Classical in
def acP{m}{a}{l}{c}(g:o9 m a l=some c):∃b d,fW (G l)=b++c::d/\Rx.zx (gS m l c.testBit)∣Rx.zx a/\∀f∈b,¬Rx.zx (gS m l f.testBit)∣Rx.zx a:=by unfold o9 at g;let ⟨i,b,d,h2,k⟩:=Ud.1 g;refine⟨b,d,h2,az i,λf n p=>?_⟩;have:=k f n;rw[C5]at this;exact aL this p
open Classical in
def aos{m}{a}{l}(c:o9 m a l=none):∀b∈fW (G l),¬Rx.zx (gS m l b.testBit)∣Rx.zx a:=by unfold o9 at c;intro b d f;exact EN.1 c b d<|jU f
section
variable{p:I}{m:Z}{a:V Z}{l:V (V Z)}
def gL.aot(g:gL p m a l){b}(i:o9 m a l=some b):Rx.bw (Rx.zx<|gS m l b.testBit):=by
 let ⟨us,ws,c,h2,k⟩:=acP i;have n:b∈fW (G l):=by rw[c];simp
 refine g.first n h2 λT d r=>?_
 have f:=aoj<|G l;rw[c]at d f;rcases b8.1 d with e|e
 .exact k T e
 .exfalso;rcases df.1 e with e|e
  .subst e;omega
  .have:=(im.1 (tD.1 f).2.1).1 T e;omega
def gL.rest(r:gL p m a l){d}(hS:d∈fW (G l))(hd:Rx.zx (gS m l d.testBit)∣Rx.zx a):Rx.zx a=Rx.zx (gS m l d.testBit)*Rx.zx (j0 a<|gS m l d.testBit)/\gL p m (j0 a<|gS m l d.testBit) (bg (λi=> !d.testBit i) 0 l)/\bg (λi=> !d.testBit i) 0 l≠[]/\G (bg (λi=> !d.testBit i) 0 l)<G l:=by
 let ⟨_,z,A⟩:=si.1 hS;let ⟨K,gl⟩:=r.B2 d.testBit;have x:∃q,aG q/\Rx.zx a=Rx.zx (gS m l d.testBit)*Rx.zx q:=by
  let ⟨k,P⟩:=hd;have Q:Rx.Mo k:=by have:=Rx.mZ r.am;rw[P]at this;exact this.zO<|Rx.mZ K
  let ⟨D,u,k1,_,J,_⟩:=r.wa Q (Rx.mZ K) P;exact⟨D,k1,by rw[J,P,Rx.mul_comm]⟩
 let ⟨R,B⟩:=qL x;have M:j0 a (gS m l d.testBit)=wm x:=by unfold j0;rw[dif_pos x]
 rw[<-M]at R B;generalize hg:gS m l d.testBit=g at*;generalize j0 a g=q at*;let ⟨b,b1,N,O,b4,T⟩:=r.mask K R B;have U:∀j,j<G l->b j=mO d j:=λj F=>by
  have W:=O j F;rw[<-hg,r.acN d.testBit F]at W;cases X:b j
  .cases Y:mO d j
   .rfl
   .rw[W.2 Y]at X;cases X
  .exact(W.1 X).symm
 have v:bg (λi=> !b i) 0 l=bg (λi=> !d.testBit i) 0 l:=B3 λj F=>by rw[dU,U j F]
 have C:∀(c:I->Bool)(L:V (V Z))(i:I),G (bg c i L)=bJ (λj=>c<|i+j) (G L):=by
  intro c L;induction L with
  |nil=>intro i;rfl
  |cons y L ih=>
   intro i
   have sh:∀n,bJ (λj=>c<|i+j) (n+1)=(if c i then 1 else 0)+bJ (λj=>c<|i+1+j) n:=by
    intro n;induction n with
    |zero=>rw[bJ,bJ,bJ];simp
    |succ n o=>rw[bJ,o,bJ,(S:i+(n+1)=i+1+n)];omega
   rw[bg,fu,sh]
   have:=ih<|i+1
   split
   .rw[fu];omega
   .omega
 have E:G (bg (λi=> !d.testBit i) 0 l)=bJ (λi=> !d.testBit i) (G l):=by rw[C];exact IV λi _=>by rw[dU]
 have w:=T7 d.testBit<|G l;refine⟨B,?_,λe=>by rw[e]at E;simp at E;omega,S⟩;have s:Rx.zx q∣Rx.zx a:=by rw[B];exact Rx.dvd_mul_left _ _
 refine⟨r.H,r.pm,R,λf t=>r.lm f<|tS t,λf t=>r.fq f<|tS t,IT r.pair,v▸T,?_,?_,λu g1 g2=>r.bd u g1<|Rx.dvd_trans g2 s⟩
 .refine r.jN.of_dvd ?_;rw[Ua (Rx.ND B.symm)];exact dvd_mul_left _ _
 .rw[N,(r.B2 _).2,v]
def gL.all:∀(k:I){a:V Z}{l:V (V Z)},G l<=k->l≠[]->gL p m a l->(∀r∈me m k a l,aG r/\Rx.bw (Rx.zx r))/\Rx.o8 (me m k a l)=Rx.zx a
 |0,_,l,f,h2,_=>absurd (et S) h2
 |k+1,a,l,f,h2,b=>by
  rw[me];cases c:o9 m a l with
  |none=>
   have g:=b.none h2<|aos c
   refine⟨λr d=>?_,Rx.mul_one _⟩
   rw[iu.1 d]
   exact⟨b.am,g⟩
  |some i=>
   let ⟨us,ws,s1,s2,_⟩:=acP c
   have n:i∈fW (G l):=by rw[s1];simp
   let ⟨r1,v,x,B⟩:=b.rest n s2
   let ⟨i1,i2⟩:=gL.all k S x v
   refine⟨λr d=>?_,by rw[Rx.o8,i2,<-r1]⟩
   rcases df.1 d with e|e
   .rw[e];exact⟨(b.B2 _).1,b.aot c⟩
   .exact i1 r e
end
end Go.El
namespace Go.El
open Go Go.Proofs Go.RowKit
abbrev ZZ:ET:= .pr .z .z
def qz(r:O):Z×Z:=(r.num,(r.den:Z))
def IX E(f:V O):cK (.vec E ZZ<|f.map qz) (.vec E .q f):=by
 refine⟨λN g W x h=>?_,λ_ h=>bS⟩;rcases h with⟨a,c⟩|⟨b,d,vs,a,c,m,k,l,n,p,r⟩
 .exact .inl ⟨a,List.map_eq_nil_iff.1 c⟩
 .rw[cL]at a k l;refine .inr ⟨b,d,vs,a,c,m,k,l,λi v=>?_,p,r⟩;have:=n i (by rw[cL];exact v);rw[og]at this;exact this
def acQ(f:V O):a7 (.c<|.S .q f) (.c<|.S ZZ<|f.map qz):=by
 refine⟨λg v h=>?_,λ_ h=>by simpa[AV.ar,C.ar]using h⟩;obtain⟨a,k,m,n,p,d⟩:m' (dk g.H .q) 4 g.H f v:=h;refine⟨a,k,by rw[cL];exact m,by rw[cL];exact n,by rw[cL];exact p,?_⟩;rcases d with d|⟨b,off,e,d⟩
 .exact .inl (by rw[d];rfl)
 .refine .inr ⟨b,off,e,λi l=>?_⟩;rw[cL]at l;let ⟨cs,c1,r,x⟩:=d i l;exact⟨cs,c1,by rw[og];exact r,x⟩
def aou{c:Type}(a b:c){i n}(d:i<n):(bh i a++bh (n-i) b).set i a=bh (i+1) a++bh (n-(i+1)) b:=by rw[oR _ _ ax,fo,gx,(S:n-i=(n-(i+1))+1),uc,A9,List.replicate_succ',jR];rfl
def NQ(n:I)(b:n<=1000):lK j 245 [D n] 46 .q (bh n 0):=by
 refine vT Tryz.func245 J J J J A ?_;refine e J<|t<|rm ZZ n J J J J J J KF J ?_ ?_<|o J<|L<|e J ?_
 .show n*64<=_;omega
 .show n*4<=_;omega
 refine q<|aK (α:=I) (λi=>⟨[(3,.c<|.X 1001000),(7,D n),(8,D i)],[(1001000,.vec 46 ZZ<|bh i (0,1)++bh (n-i) (0,0))],3,[]⟩) (λi=>i<=n) (λi=>n-i) 0 (aW _) (wk (aS J) ⟨bE J J,T⟩) ?_;intro i d;refine e J<|L<|z J (λh=>?_)<|λh=>?_
 .have h:i<n:=by have h:(i:Z)<(n:Z):=az h;omega
  have a:G (bh i ((0,1):Z×Z)++bh (n-i) (0,0))=n:=bP;refine bN<|ay<|L<|q<|e J<|bs<|rc J J (M2 0 A A)<|jx ((0,1):Z×Z) J J J J J ?_ (o J<|aT<|rt J (hp:=ak)<|aA (i+1) h MK<|wk (aS J) ⟨bE J ?_,T⟩) (hp:=?_)
  .show ad ((i:Z))<_;rw[a];omega
  .refine aC (aH.vec 46 ZZ) ?_;show(bh i ((0,1):Z×Z)++bh (n-i) (0,0)).set (ad<|(i:Z)) (0,1)=_;rw[aV,aou _ _ h]
  .show 0<=(i:Z)/\(i:Z)<(G (bh i ((0,1):Z×Z)++bh (n-i) (0,0)):Z);rw[a];omega
 .have h:i=n:=by have h:¬(i:Z)<(n:Z):=aL h;omega
  subst h;refine aN<|ay ?_;refine dc (st':=⟨[(3,.c<|.X 1001000)],[(1001000,.vec 46 .q<|bh i 0)],4,[]⟩) (wk ⟨sR J,T⟩ ⟨⟨_,J,?_⟩,T⟩)<|e J<|bc<|uD (id:=1001000) a6 J J;have:=IX 46<|bh i 0;rw[List.map_replicate]at this;rw[gx,uz,iW];exact this
def IY(xs:V O)(f:G xs<=1000000):af Tryz.prog 248 [N .q xs] (N .q<|dV xs):=by
 refine aD Tryz.func248 ?_;refine e J<|e J ?_;refine L<|q<|aK (α:=I) (λk=>⟨[(0,N .q xs),(3,D k)],[],2,[]⟩) (λk=>k<=G xs/\gD xs k=gD xs (G xs)) (λk=>k) (G xs) ⟨a8 _,J⟩ aM ?_;rintro k ⟨g,a⟩;have b:gD xs k=k->a7 (N .q<|y k xs) (N .q<|dV xs):=λc=>by refine a7.of_eq ?_;unfold dV;rw[<-a,c]
 refine L<|t ?_;refine rg 8 J J (λh=>?_)<|λh=>?_
 .have h:0<k:=by have h:(k:Z)>0:=az h;omega
  obtain⟨j,rfl⟩:∃j,k=j+1:=⟨k-1,S⟩;have d:ad (((j+1:I):Z)-1)=j:=S;refine eI J J J J J (Ik<|Y xs (ad<|((j+1:I):Z)-1) 0) (o J ?_) (hp:=iM);refine z J (λh2=>?_)<|λh2=>?_
  .have h2:(Y xs j 0).num=0:=by have h2:cq (Y xs (ad<|((j+1:I):Z)-1) 0).num=0:=eq_of_beq h2;rw[d]at h2;exact tE.1 h2
   refine ai<|q<|rt J (dy<|aA j ⟨S,?_⟩ ni<|wk ⟨sR J,sE J ?_,T⟩ T) (hp:=iM)
   .rw[<-a,gD,s h2]
   .exact gh (S:((j+1:I):Z)-1=(j:Z))
  .have h2:(Y xs j 0).num≠0:=by have h2:cq (Y xs (ad<|((j+1:I):Z)-1) 0).num≠0:=fT h2;rw[d]at h2;exact λc=>h2 (tE.2 c)
   exact aN<|ay<|e J (bc<|g8 a6 J<|b<|by rw[gD,M h2]) (hp:=ak)
 .have h:k=0:=by have h:¬(k:Z)>0:=aL h;omega
  subst h;exact o J<|z J (λh2=>nl)<|λ_=>aN<|ay<|e J (bc<|g8 a6 J<|b J) (hp:=ak)
def oA(r:V O)(c:O)(b:V O)(k m:I):V O:=(be<|G r).map λi=>if k<=i/\i<k+m then Y r i 0+c*Y b (i-k) 0 else Y r i 0
def lS(r:V O)(c:O)(b:V O)(k:I):V O:=oA r c b k<|G b
def oB(r c b k m):G (oA r c b k m)=G r:=by simp[oA]
def vj{r}{c}{b}{k m i}(a:i<G r):Y (oA r c b k m) i 0=if k<=i/\i<k+m then Y r i 0+c*Y b (i-k) 0 else Y r i 0:=by unfold oA;rw[aF,gj,jW a];rfl
def IZ{a b:V O}(d:G a=G b)(f:∀i,i<G a->Y a i 0=Y b i 0):a=b:=by
 refine lq d λi c g=>?_
 have:=f i c;rwa[aF,bD c,aF,bD g]at this
def aov(r c b k):oA r c b k 0=r:=IZ (oB ..) λi a=>by rw[oB]at a;rw[vj a,M S]
def aow(r b k):lS r 0 b k=r:=IZ (oB ..) λi a=>by
 unfold lS at*;rw[oB]at a;rw[vj a];split
 .rw[tG,pV]
 .rfl
def B4{l}{i}c(x:O)(a:i<G l):Y (l.set i x) c 0=if i=c then x else Y l c 0:=by
 rw[aF,Dw];by_cases e:i=c
 .subst e;rw[s J,s J,s a];rfl
 .rw[M e,M e,aF]
def aox{r}{c}{b}{k m}(f:k+m<G r):(oA r c b k m).set (k+m) (Y r (k+m) 0+c*Y b m 0)=oA r c b k (m+1):=IZ (by rw[fP,oB,oB]) λi a=>by
 rw[fP,oB]at a;rw[B4 _ _ (by rw[oB];exact f),vj a,vj a];by_cases e:k+m=i
 .subst e;rw[s J,s S,DT]
 .rw[M e];by_cases d:k<=i/\i<k+m
  .rw[s d,s S]
  .rw[M d,M S]
def aoy{r}{c}{b}{k m}(f:Y b m 0=0):oA r c b k m=oA r c b k (m+1):=IZ (by rw[oB,oB]) λi a=>by
 rw[oB]at a;rw[vj a,vj a];by_cases e:i=k+m
 .subst e;rw[M S,s S,DT,f,jA,pV]
 .by_cases d:k<=i/\i<k+m
  .rw[s d,s S]
  .rw[M d,M S]
def zY{r:O}(a:r.num=0):r=0:=Rat.num_eq_zero.1 a
def Ue{s}(F:s<=1000000000) r c b k(H:k+G b<=G r)(x:G r<=1000)(B:∀i,QS s (Y r i 0))(n:QS s c)(E:∀i,QS s (Y b i 0)):
  mR j 253 [.c (.X 0),aQ c,N .q b,D k] 46 .q r (.t []) (lS r c b k):=by
 refine pB Tryz.func253 J J J J J A ?_
 refine e J<|L<|aO J J (Ik c) J<|z J (λh=>?_)<|λh=>ai ?_
 .have h:cq c.num=0:=eq_of_beq h;have h:c=0:=zY<|tE.1 h;subst h;rw[aow];exact bc<|bt<|s7 a6 J (a7.refl _) J
 refine e J ?_
 refine q<|aK (α:=I) (λm=>⟨[(0,.c<|.X 0),(3,D k),(5,.c<|.P 1000000 0),(13,N .q b),(14,D<|G b),(15,D m)],[(0,.vec 46 .q<|oA r c b k m),(1000000,.box 46 0<|av .q c)],4,[]⟩) (λm=>m<=G b) (λm=>G b-m) 0 (aW _) (wk (aS J) ⟨bE J ?_,bE J J,T⟩) ?_
 .rw[aov]
 intro m C
 refine e J<|L<|z J (λh=>?_)<|λh=>?_
 .have h:m<G b:=by have h:(m:Z)<(G b:Z):=az h;omega
  have p:ad ((m:Z))=m:=aV m;have f:ad ((m:Z)+(k:Z))=k+m:=S;have g:=oB r c b k m;have v:Y (oA r c b k m) (ad<|(m:Z)+(k:Z)) 0=Y r (k+m) 0:=by rw[f,vj S,M S]
  have d:QS s (Y b (ad<|(m:Z)) 0):=E _;have l:QS (2*s) (Y (oA r c b k m) (ad<|(m:Z)+(k:Z)) 0):=by rw[v];exact(B _).le S
  refine ai<|L<|q<|e J<|aO J J (Ik<|Y b (ad<|(m:Z)) 0) J<|z J (λa=>?_)<|λa=>bN ?_
  .refine bs (rc J J (S8 c (Y b (ad<|(m:Z)) 0) n d S) (rc J J (amK _ _ l (n.mul d) S)<|jx (Y (oA r c b k m) (ad<|(m:Z)+(k:Z)) 0+c*Y b (ad<|(m:Z)) 0) J J J J J ?_ (o J ?_) (hp:=?_)) (hp:=?_))
   .show ad ((m:Z)+(k:Z))<G (oA r c b k m);rw[f,g];omega
   .refine aT<|rt J (hp:=ak)<|aA (m+1) h (S:G b-(m+1)<G b-m)<|wk (aS J) ⟨bE J ?_,bE J J,T⟩;show aH.vec 46 .q ((oA r c b k m).set (ad<|(m:Z)+(k:Z))<|Y (oA r c b k m) (ad<|(m:Z)+(k:Z)) 0+c*Y b (ad<|(m:Z)) 0)=_;rw[v,f,p,aox S]
   .simp only[Pr.an,Pr.h,num,eO,true_and,and_true];omega
   .simp only[Pr.an,Pr.h,num,eO,true_and,and_true];omega
  .have a:cq (Y b (ad<|(m:Z)) 0).num=0:=nO a;rw[p]at a;have a:=zY<|tE.1 a;refine aT<|rt J (hp:=ak)<|aA (m+1) h (S:G b-(m+1)<G b-m)<|wk (aS J) ⟨bE J ?_,bE J J,T⟩;rw[aoy a]
 .have h:m=G b:=by have h:¬(m:Z)<(G b:Z):=aL h;omega
  subst h;exact aN<|y7 a6 J (a7.refl _) J
def QS.zero{b}(c:1<=b):QS b 0:=⟨aw.zero _,(aw.one (a:=1) A).le c⟩
def QS.int{b}(c:1<=b){f}(g:Int.natAbs f<4294967296):QS b (f:O):=⟨(aw.one g).le c,(aw.one (a:=1) A).le c⟩
def n5(c:O)(a:V O):V O:=a.map (c*·)
def acR c a i:Y (n5 c a) i 0=c*Y a i 0:=by
 unfold n5;rw[aF,gj,aF];cases a[i]? with
 |none=>show(0:O)=c*0;rw[jA]
 |some x=>rfl
def NR n i:Y (bh n (0:O)) i 0=0:=by rw[aF,j9];split<;>rfl
def aoz c a:lS (bh (G a) 0) c a 0=n5 c a:=IZ (by rw[lS,oB,fo,n5,cL]) λi b=>by rw[lS,oB,fo]at b;rw[lS,vj (by rw[fo];exact b),s S,NR,Iq,wb,acR]
def Uf{s}(f:1<=s)(g:s<=1000000000) c a(d:G a<=1000)(k:QS s c)(l:∀i,QS s (Y a i 0)):af j 200 [aQ c,N .q a] (N .q<|dV<|n5 c a):=by refine aD Tryz.func200 ?_;have m:=NQ (G a) d;have b:=Ue g (bh (G a) 0) c a 0 K8 (by rw[fo];exact d) (λi=>by rw[NR];exact QS.zero f) k l;rw[aoz]at b;have n:=IY (n5 c a) (by unfold n5;rw[cL];omega);refine e J<|t<|uE J J m<|o J<|t<|nJ 1002000 J b J J<|o J ?_;exact cD 1002000 J J J<|aO J J n J<|bU J
def acS{s}(m:s<=1000000000) a(c:a≠[])(f:G a<=1000)(g:Y a (G a-1) 0≠0)(b:QS s (Y a (G a-1) 0)):af j 201 [N .q a] (aQ (Y a (G a-1) 0)⁻¹):=by
 refine aD Tryz.func201 ?_;have p:=bX.2 c;have i:ad ((G a:Z)-1)=G a-1:=S;have k:af j 252 [aQ (Y a (ad<|(G a:Z)-1) 0)] (.t [(ae,av .q (Y a (G a-1) 0)⁻¹),(ah,[.I .i64 0])]):=by rw[i];exact S6 _ (λl=>g<|zY l) (b.n.sm S)<|b.d.sm S
 refine e J<|L<|e J<|z J (λh=>?_)<|λh=>ai ?_
 .have h:(G a:Z)=0:=eq_of_beq h;exact absurd h S
 refine t<|rc J J k (o J<|e J<|bU J) (hp:=ak)
def acT{s}(f:1<=s)(g:s<=1000000000) a(k:a≠[])(l:G a<=1000)(m:Y a (G a-1) 0≠0)(b:∀i,QS s (Y a i 0))(c:QS s (Y a (G a-1) 0)⁻¹):af j 199 [N .q a] (N .q<|dV<|n5 (Y a (G a-1) 0)⁻¹ a):=by
 refine aD Tryz.func199 ?_;have p:=bX.2 k;have r:ad ((G a:Z)-1)=G a-1:=S;have v:af j 252 [aQ (Y a (ad<|(G a:Z)-1) 0)] (.t [(ae,av .q (Y a (G a-1) 0)⁻¹),(ah,[.I .i64 0])]):=by rw[r];exact S6 _ (λx=>m<|zY x) ((b _).n.sm S)<|(b _).d.sm S
 refine e J<|L<|e J<|z J (λh=>?_)<|λh=>ai ?_
 .have h:(G a:Z)=0:=eq_of_beq h;exact absurd h S
 refine t<|rc J J v (o J<|aO J J (Uf f g _ a l c b) J<|bU J) (hp:=ak)
def QS.inv{g}{a}(f:QS g a)(i:a≠0):QS g a⁻¹ :=by
 have k:a.num≠0:=λe=>i<|zY e
 rw[Rat.inv_def];have c:=DE (a.den:Z) a.num k;have l:Int.gcd (a.den:Z) a.num=1:=by rw[Int.gcd_comm];exact a.reduced
 rw[l]at c;by_cases b:a.num<0
 .rw[s b,show-(((1:I):Z))= -1 from J,A7,uI,A7,uI]at c;exact⟨by rw[c.1];exact f.d.neg,by rw[c.2];exact f.n.neg⟩
 .rw[M b,show(((1:I):Z))=1 from J,uI,uI]at c;exact⟨by rw[c.1];exact f.d,by rw[c.2];exact f.n⟩
def kC(a:V O):V O:=(be<|G a-1).map λi=>(((i+1:I):Z):O)*Y a (i+1) 0
def NS(a):G (kC a)=G a-1:=by simp[kC]
def Ug{a}{i}(b:i<G a-1):Y (kC a) i 0=(((i+1:I):Z):O)*Y a (i+1) 0:=by unfold kC;rw[aF,gj,jW b];rfl
def aoA{L:V O}{i n}(b:G L=n)(c:i<n):(y i L++bh (n-i) 0).set i (Y L i 0)=y (i+1) L++bh (n-(i+1)) 0:=by have a:(y i L).length=i:=bP;rw[oR _ _ S,a,gx,(S:n-i=(n-(i+1))+1),uc,A9,FV S,jR,aF,bD S];rfl
def aoB{s}(g:1<=s)(B:s<=1000000000) a(E:G a<=1000)(k:∀i,QS s (Y a i 0)):af j 196 [N .q a] (N .q<|dV<|kC a):=by
 refine aD Tryz.func196 ?_;refine e J<|L<|e J<|z J (λh=>?_)<|λh=>ai ?_
 .have h:(G a:Z)=0:=eq_of_beq h;have h:a=[]:=et S;subst h;exact e J<|bc<|bt<|g8 a6 J<|a7.nil _
 have h:0<G a:=by have h:(G a:Z)≠0:=fT h;omega
 obtain⟨n,C⟩:∃n,G a=n+1:=⟨G a-1,S⟩;have l:(G a:Z)-1=(n:Z):=S;have f:=NQ n S;rw[<-l]at f;have m:=NS a;have p:=IY (kC a) S;refine t<|uE J J f (o J ?_) (hp:=ak);refine L<|e J ?_;rw[fo];refine q<|aK (α:=I) (λi=>⟨[(0,N .q a),(3,.c<|.X 2003000),(13,D n),(14,D i)],[(2003000,.vec 46 .q<|y i (kC a)++bh (n-i) 0)],5,[]⟩) (λi=>i<=n) (λi=>n-i) 0 (aW _) (wk (aS J) ⟨bE J J,T⟩) ?_;intro i F;refine e J<|L<|z J (λb=>?_)<|λb=>?_
 .have b:i<n:=by have b:(i:Z)<(n:Z):=az b;omega
  have d:G (y i (kC a)++bh (n-i) (0:O))=n:=bP;have r:ad ((i:Z)+1)=i+1:=S;have v:=M2 ((i:Z)+1) S S;have x:=S8 (((i:Z)+1:Z):O) (Y a (ad<|(i:Z)+1) 0) (QS.int g S) (k _) S;refine bN<|ay<|L<|q<|e J<|bs<|rc J J v (rc J J x (jx ((((i:Z)+1:Z):O)*Y a (ad<|(i:Z)+1) 0) J J J J J ?_ (o J<|aT<|rt J (hp:=ak)<|aA (i+1) b MK<|wk (aS J) ⟨bE J ?_,T⟩) (hp:=?_)) (hp:=?_)) (hp:=ak)
  .show ad ((i:Z))<_;rw[d];omega
  .refine aC (aH.vec 46 .q) ?_;show(y i (kC a)++bh (n-i) (0:O)).set (ad<|(i:Z)) ((((i:Z)+1:Z):O)*Y a (ad<|(i:Z)+1) 0)=_;rw[aV,r];have:=aoA (L:=kC a) (n:=n) S b;rwa[Ug S]at this
  .show 0<=(i:Z)/\(i:Z)<(G (y i (kC a)++bh (n-i) (0:O)):Z);rw[d];omega
  .simp only[Pr.an,Pr.h,num,eO,true_and,and_true];omega
 .have b:i=n:=by have b:¬(i:Z)<(n:Z):=aL b;omega
  subst b;rw[gx,uz,iW,iI S];exact aN<|ay<|cD 2003000 J J J<|aO J J p J<|bU J
def zZ(a:V O)(b:I):V O:=a++bh (b-G a) 0
def NT{a}{b}(c:G a<=b):G (zZ a b)=b:=by simp[zZ];omega
def acU a b i:Y (zZ a b) i 0=Y a i 0:=by
 unfold zZ;rw[aF,aF];by_cases h:i<G a
 .rw[yN h]
 .rw[vF S,lG (l:=a) S,j9];split<;>rfl
def tT(a:V O)(c:O)(b:V O):V O:=lS (zZ a<|max (G a)<|G b) c b 0
def aoC{d}(E:1<=d)(m:d<=1000000000) a c b(F:G a<=1000)(H:G b<=1000)(n:0<max (G a) (G b))(p:∀i,QS d (Y a i 0))(r:QS d c)(v:∀i,QS d (Y b i 0)):af j 254 [N .q a,aQ c,N .q b,D 0] (N .q<|dV<|tT a c b):=by
 refine aD Tryz.func254 ?_;generalize hM:max (G a) (G b)=M at*;have f:M<=1000:=S;have x:=NQ M f;have g:=Ue m (zZ a M) c b 0 (by rw[NT S];omega) (by rw[NT S];exact f) (λi=>by rw[acU];exact p i) r v;have B:=IY (tT a c b) (by rw[tT,lS,oB,hM,NT S];omega);have k:tT a c b=lS (zZ a M) c b 0:=by rw[tT,hM]
 rw[<-k]at g;have C:(if(G b:Z)+0>(G a:Z)then(G b:Z)+0 else(G a:Z))=(M:Z):=by split<;>omega
 have l:lK j 245 [D (if(G b:Z)+0>(G a:Z)then(G b:Z)+0 else(G a:Z))] 46 .q (bh M 0):=by rw[C];exact x
 refine e J<|t<|uE J J l<|o J ?_;refine t<|GF J J J J J K8 (λk=>by have:=aC G k;rw[fo]at this;simp at this;omega)<|o J ?_;rw[Uh];change TR _ _ _ ⟨_,(_,.vec 46 .q<|zZ a M)::_,_,_⟩ _;refine t<|nJ 1007000 J g J J<|o J ?_;exact cD 1007000 J J J<|aO J J B J<|bU J
def aoD{s}(f:1<=s)(k:s<=1000000000) a b(l:G a<=1000)(m:G b<=1000)(d:0<max (G a) (G b))(n:∀i,QS s (Y a i 0))(p:∀i,QS s (Y b i 0)):af j 202 [N .q a,N .q b] (N .q<|dV<|tT a (-1) b):=by refine aD Tryz.func202 ?_;have g:=M2 (-1) A A;have c:=aoC f k a (((-1:Z)):O) b l m d n (QS.int f A) p;rw[show(((-1:Z)):O)= -1 from J]at c g;exact e J<|t<|rc J J g<|rc J J c<|o J<|bU J
section
variable{P:cT}{tt:V (I×TI)}
def aoE(fc:cN P tt=ae){n new}{ops}{i}{br:Oper}(ho:ops[i]? =some br)(hg:br.guard=none){d:I}(hd:br.dst=some d)(dC:d<n){x p}{t1 t2}(dZ:br.op= .call ⟨.builtin .copy,#[x,p],#[t1,t2]⟩)
 {f}{r}{E E1:TypeId} {H}{ei:TI} (hx:f.ev x=some (.c<|.X r)) (hl:w r f.mem=some (.vec E H [])) (hy:f.ev p=some (.c<|.S H [])) (Q:Dq tt t1 t2=some (E1,ei)) (qx:ei.size=H.n):
  lI P n ops i f (f.put d<|.c<|.I .i64 0) new (cH [x,p]++fv [r],[.s d]):=by
 refine⟨(dO f x++dO f p)++k5 f [r],[(.s d,some<|.v<|.c<|.I .i64 0)],?_,?_,nH f d _,?_,λk hk=>jG⟩
 .refine uu ho hg hd dC _ _ new ?_;intro F u σ g W a l R;have Q:=XQ fc Q;rw[qx]at Q;have A:a.eval x=g.γ r:=gO l f x _ hx<|λU dL=>R U jt;have D:=gO l f p _ hy<|λU dL=>R U jt;have G:σ (.m r)=some (.b<|.vec E H ([]:V H.den)):=R (.m r,.b<|.vec E H []) sW;let ⟨e2,po⟩:=Q.u2;let ⟨inf,z,C,K,O,Qg,Gk⟩:=Q.info;let ⟨us,B,L,GD,X9⟩:=XF (P:=P) (st:=f) (sz:=H.n) (y:= .c<|.S H []) (m:=0) (cs:=[]) (ids:=[]) l (by simp[KC]) D (λr M=>by cases M) po J;have N:us=[]:=L;subst N;refine⟨λj hj=>(by cases hj),(.int .i64 0:bH),?_,J⟩;have t:(acV #[t1,t2] br.type #[a.eval x,a.eval p]).run P W= .ok (.int .i64 0) W:=by
   rw[A];have Y:=B.cells;rcases l.db r _ G with⟨q,_⟩|⟨b,cap,vs,q,hh,xh,Z,hlen,hr,hN,hz⟩
   .rw[q];simp[acV,run_underlying Q.u1,sizeOf,typeInfo,C,B.len,K,Y,goInt,Sem.run,pure]
   .rw[q];simp[acV,run_underlying Q.u1,sizeOf,typeInfo,C,B.len,K,Y,goInt,Sem.run,pure,storeCells]
  refine Kx dZ<|λcs=>?_;have e:(#[x,p]:Array Operand).map a.eval= #[a.eval x,a.eval p]:=ax;rw[e];simp only[Go.builtin,Sem.run_bind,t,Result.andThen];rfl
 .intro U dL;rcases b8.1 dL with h|h
  .rcases b8.1 h with h|h
   .exact gw _ x U h
   .exact gw _ p U h
  .exact qA _ [r] U h
 .intro k hk;simp only[gn,fe,b8]at hk;rcases hk with(h|h)|h
  .exact fC _<|fZ f [x,p] k wY
  .exact fC _<|fZ f [x,p] k wZ
  .exact jo _<|py f [r] k h
end
section
variable{n:I}{sl sl':V (I×AV)}{mem mem':V (I×aH)}{nx:I}{gd gd':V (I×Bool)}{ops:Array Oper}{draw:Bool}{p:Pr}{ks dd:V Ks}{i i' n0 bQ:I}{os dm:V Oper}{d:I}{ty:TypeId}{pos:String}{hJ:Array Edge}{R:St->Prop}
def aoF{x a}{l m}{b}{E v:TypeId}{f}{r}(B:runs dD n nx draw ops.toList os i ⟨sl,mem,n0,gd⟩ .t ks=(⟨some d,.call ⟨.builtin .copy,#[x,a],#[l,m]⟩,ty,pos,hJ,none⟩::dm,i',⟨sl',mem',bQ,gd'⟩,p,dd))
  (F:St.ev ⟨sl',mem',bQ,gd'⟩ x=some (.c<|.X b)) (H:w b mem'=some (.vec E f [])) (P:St.ev ⟨sl',mem',bQ,gd'⟩ a=some (.c<|.S f [])) (Q:Dq dD l m=some (v,r))
  (U:RG j n ops draw nx (i'+1) dm ⟨(d,.c<|.I .i64 0)::sl',mem',bQ,gd'⟩ (ff draw dd (cH [x,a]++fv [b],[.s d])) R) (g:r.size=f.n:=by rfl)
  (W:p:=by exact lW) (k:Nat.blt d n=ae:=by rfl):RG j n ops draw nx i os ⟨sl,mem,n0,gd⟩ ks R:=
 jI a6 B W (k7 (λC=>aoE a6 C J J (cY k) J F H P Q g)<|jH U)
end
def dA(inv:O)(a b:V O)(n m:I):I->V O×V O
 |0=>(bh m 0,a)
 |c+1=>((dA inv a b n m c).1.set (m-1-c)<|(dA inv a b n m c).2.getD (m-1-c+n) 0*inv,lS (dA inv a b n m c).2 (-((dA inv a b n m c).2.getD (m-1-c+n) 0*inv)) b<|m-1-c)
def yk(inv a b n m):∀c,(dA inv a b n m c).1.length=m/\(dA inv a b n m c).2.length=G a
 |0=>⟨fo,J⟩
 |c+1=>by let ⟨d,h2⟩:=yk inv a b n m c;exact⟨by rw[dA,fP,d],by rw[dA,lS,oB,h2]⟩
def acW{v}(h1:1<=v)(hs:v<=100000000) a b n m(hn:G b=n+1)(hm:G a=n+m)(Bd:0<m)(la:G a<=1000)(B:Y b n 0≠0)(R:∀i,QS v (Y b i 0))(hS:∀f,f<=m->∀i,QS v ((dA (Y b n 0)⁻¹ a b n m f).2.getD i 0)):
  af j 251 [N .q a,N .q b] (.t [(ah,[.S .q (dV (dA (Y b n 0)⁻¹ a b n m m).1)]),(ah,[.S .q (dV<|(dA (Y b n 0)⁻¹ a b n m m).2.take n)]),(ah,[.I .i64 0])]):=by
 refine aD Tryz.func251 ?_
 refine e J<|L<|e J<|z J (λh=>?_)<|λh=>ai ?_
 .have h:(G b:Z)=0:=eq_of_beq h;exact absurd h S
 refine t<|rm ZZ (G a) J J J J J J KF J ?_ ?_<|o J ?_
 .show G a*64<=_;omega
 .show G a*4<=_;omega
 refine dc (st':=⟨[(0,.c<|.S ZZ<|a.map qz),(1,N .q b),(7,.c<|.X 2002000)],[(2002000,.vec 46 ZZ<|bh (G a) (0,0))],3,[]⟩) (wk ⟨⟨_,J,acQ a⟩,sR J,sR J,T⟩ ⟨bR J,T⟩) ?_
 refine t<|GF J J J J J (by rw[fo,cL];omega) (λC=>by have:=aC G C;rw[fo,k6]at this;omega)<|o J ?_
 have O:Ui qz a++List.drop (Ui qz a).length (bh (G a) ((0,0):Z×Z))=a.map qz:=by rw[cL,Uh,gx,uz,iW]
 refine dc (st':=⟨[(0,.c<|.S ZZ<|a.map qz),(1,N .q b),(7,.c<|.X 2002000)],[(2002000,.vec 46 .q a)],4,[]⟩) (wk (aS J) ⟨⟨_,J,by rw[O];exact IX 46 a⟩,T⟩) ?_
 refine e J<|L<|e J<|z J (λh=>?_)<|λh=>ai ?_
 .have h:((a.map qz).length:Z)<=(G b:Z)-1:=az h;rw[cL]at h;exact absurd h S
 have V:ad ((G b:Z)-1)=n:=S
 have hi:af j 252 [aQ (Y b (ad<|(G b:Z)-1) 0)] (.t [(ae,av .q (Y b n 0)⁻¹),(ah,[.I .i64 0])]):=by rw[V];exact S6 _ (λC=>B<|zY C) ((R _).n.sm S)<|(R _).d.sm S
 have E:QS v (Y b n 0)⁻¹ :=(R n).inv B
 generalize (Y b n 0)⁻¹ =inv at*
 have ez:((a.map qz).length:Z)-((G b:Z)-1)=(m:Z):=by rw[cL];omega
 have hz:lK j 245 [D (((a.map qz).length:Z)-((G b:Z)-1))] 46 .q (bh m 0):=by rw[ez];exact NQ m S
 refine t<|rc J J hi (o J<|t<|uE J J hz<|o J ?_) (hp:=ak)
 refine L<|e J ?_
 rw[fo]
 have F:=yk inv a b n m
 refine q<|aK (α:=I) (λf=>⟨[(1,N .q b),(7,.c<|.X 2002000),(8,D n),(9,.c<|.P 6008000 0),(11,.c<|.X 7004000),(12,D<|(m:Z)-1-f)],[(7004000,.vec 46 .q (dA inv a b n m f).1),(6008000,.box 46 0<|av .q inv),(2002000,.vec 46 .q (dA inv a b n m f).2)],9,[]⟩) (λf=>f<=m) (λf=>m-f) 0 (aW _) (wk ⟨sR J,sR J,sE J ?_,sR J,sR J,sE J ?_,T⟩ ⟨bR J,bE J J,bR J,T⟩) ?_
 .exact gh (S:(G b:Z)-1=(n:Z))
 .exact gh (S:(m:Z)-1=(m:Z)-1-((0:I):Z))
 intro f hj
 let ⟨hq,hr⟩:=F f
 have l:=hS f hj
 have x:dA inv a b n m (f+1)=((dA inv a b n m f).1.set (m-1-f)<|(dA inv a b n m f).2.getD (m-1-f+n) 0*inv,lS (dA inv a b n m f).2 (-((dA inv a b n m f).2.getD (m-1-f+n) 0*inv)) b<|m-1-f):=rfl
 refine L<|e J<|z J (λp=>?_)<|λp=>?_
 .have p:f<m:=by have p:(m:Z)-1-f>=0:=az p;omega
  generalize dA inv a b n m f=BN at*;let ⟨U,r⟩:=BN;simp only at hq hr l x;have f1:ad ((m:Z)-1-f)=m-1-f:=S;have f2:ad ((m:Z)-1-f+n)=m-1-f+n:=S;have g:=S8 (Y r (ad<|(m:Z)-1-f+n) 0) inv (l _) E S;have M:QS (2*v) (Y r (m-1-f+n) 0*inv):=(l _).mul E;generalize H:Y r (m-1-f+n) 0*inv=k at*;have g:af j 246 [aQ (Y r (ad<|(m:Z)-1-f+n) 0),aQ inv] (aQ k):=by
   have C:Y r (ad<|(m:Z)-1-f+n) 0*inv=k:=by rw[f2];exact H
   rwa[C]at g
  have W:Y (U.set (ad<|(m:Z)-1-f) k) (ad<|(m:Z)-1-f) 0=k:=by rw[B4 _ _ S,s J]
  have K:af j 77 [aQ (Y (U.set (ad<|(m:Z)-1-f) k) (ad<|(m:Z)-1-f) 0)] (aQ<| -k):=by rw[W];exact aa' k<|M.n.sm S
  have u:=Ue (s:=2*v) S r (-k) b (m-1-f) S S (λi=>(l i).le S) M.neg<|λi=>(R i).le S;have Q:mR j 253 [.c (.X 0),aQ<| -k,N .q b,D<|(m:Z)-1-f] 46 .q r (.t []) (lS r (-k) b<|m-1-f):=by rw[(S:(m:Z)-1-f=((m-1-f:I):Z))];exact u
  refine bN<|ay<|L<|q<|t<|rc J J g<|jx (T:= .q) k J J J J J ?_ (o J (bs<|rc J J K<|nJ 2002000 J Q J J (o J<|aT<|rt J (hp:=ak)<|aA (f+1) p (S:m-(f+1)<m-f)<|wk ⟨sR J,sR J,sR J,sR J,sR J,sE J ?_,T⟩ ⟨bE J ?_,bR J,bE J ?_,T⟩) (hp:=?_)) (hp:=?_)) (hp:=?_)
  .show ad ((m:Z)-1-f)<G U;omega
  .exact gh (S:(m:Z)-1-f-1=(m:Z)-1-((f+1:I):Z))
  .rw[x,f1]
  .rw[x]
  .simp only[Pr.an,Pr.h,num,eO,true_and,and_true];first|done|omega
  .simp only[Pr.an,Pr.h,num,eO,true_and,and_true];first|done|omega
  .show 0<=(m:Z)-1-f/\(m:Z)-1-f<(G U:Z);omega
 .have p:f=m:=by have p:¬(m:Z)-1-f>=0:=aL p;omega
  subst p;refine aN<|ay<|cD 7004000 J J J<|cD 2002000 J J J ?_;have w:=IY (dA inv a b n f f).1 S;have A:=IY (y n (dA inv a b n f f).2) v7;exact t<|rc J J w<|rc J J A (o J<|bU J) (hp:=ak)
def Uj a b:a7 (.t<|(ah,[.V (.slice none 0 0)])::b) (.t<|(ah,[.S a []])::b):=by
 refine⟨λg v h=>?_,λi h=>?_⟩
 .let ⟨vs,e,h⟩:=h;obtain⟨c,r,rfl,d,f⟩:=h;exact⟨_,e,_,_,J,(a7.nil a).1 g c d,f⟩
 .simpa[AV.ar,fN,cy,C.ar]using h
def acX(a b:V O)(f:G a<G b)(m:G b<=1000):
  af j 251 [N .q a,N .q b] (.t [(ah,[.S .q []]),(ah,[.S .q a]),(ah,[.I .i64 0])]):=by
 refine aD Tryz.func251 ?_
 refine e J<|L<|e J<|z J (λh=>?_)<|λh=>ai ?_
 .have h:(G b:Z)=0:=eq_of_beq h;exact absurd h S
 refine t<|rm ZZ (G a) J J J J J J KF J ?_ ?_<|o J ?_
 .show G a*64<=_;omega
 .show G a*4<=_;omega
 refine dc (st':=⟨[(0,.c<|.S ZZ<|a.map qz),(1,N .q b),(7,.c<|.X 2002000)],[(2002000,.vec 46 ZZ<|bh (G a) (0,0))],3,[]⟩) (wk ⟨⟨_,J,acQ a⟩,sR J,sR J,T⟩ ⟨bR J,T⟩) ?_
 refine oq ⟨[(0,.c<|.S ZZ<|a.map qz),(1,N .q b),(7,.c<|.X 2002000)],[(2002000,.vec 46 .q a)],4,[]⟩ ?_<|λd=>?_
 .refine e J (L<|e J<|z J (λh=>?_)<|λh=>?_)
  .exact cD 2002000 J J J<|e J<|bc<|bt<|g8 a6 J<|Uj _ _
  .have h:¬((a.map qz).length:Z)<=(G b:Z)-1:=aL h;rw[cL]at h;exact absurd f S
 .by_cases g:a=[]
  .subst g;exact bs<|aoF J J J J J<|o J<|fH d<|wk (aS J) ⟨⟨_,J,IX 46 []⟩,T⟩
  .have i:=bX.2 g;have k:Ui qz a++List.drop (Ui qz a).length (bh (G a) ((0,0):Z×Z))=a.map qz:=by rw[cL,Uh,gx,uz,iW]
   refine bs<|GF J J J J J (by rw[fo,cL];omega) (λl=>by have:=aC G l;rw[fo,k6]at this;omega)<|o J<|fH d<|wk (aS J) ⟨⟨_,J,by rw[k];exact IX 46 a⟩,T⟩
def aoG(a b:V O)(c:G a<G b)(d:G b<=1000):af j 198 [N .q a,N .q b] (N .q []):=by refine aD Tryz.func198 ?_;exact e J<|aO J J (acX a b c d) J<|e J<|bU J
def aoH{s}(g:1<=s)(k:s<=100000000) a b n m(l:G b=n+1)(p:G a=n+m)(c:0<m)(r:G a<=1000)(d:Y b n 0≠0)(v:∀i,QS s (Y b i 0))(x:∀f,f<=m->∀i,QS s ((dA (Y b n 0)⁻¹ a b n m f).2.getD i 0)):
  af j 198 [N .q a,N .q b] (N .q<|dV (dA (Y b n 0)⁻¹ a b n m m).1):=by
 refine aD Tryz.func198 ?_
 exact e J<|aO J J (acW g k a b n m l p c r d v x) J<|e J<|bU J
def pd(r:V Z)(c:Z)(b:V Z)(k a:I):V Z:=(be<|G r).map λi=>if k<=i/\i<k+a then Y r i 0-c*Y b (i-k) 0 else Y r i 0
def vk(r c b k a):G (pd r c b k a)=G r:=by simp[pd]
def B5{r}{c}{b}{k a i}(d:i<G r):Y (pd r c b k a) i 0=if k<=i/\i<k+a then Y r i 0-c*Y b (i-k) 0 else Y r i 0:=by unfold pd;rw[aF,gj,jW d];rfl
def aoI(r c b k):pd r c b k 0=r:=sd (vk ..) λi a=>by rw[vk]at a;rw[B5 a,M S]
def aoJ{r}{c}{b}{k a}(g:k+a<G r):(pd r c b k a).set (k+a) (Y r (k+a) 0-c*Y b a 0)=pd r c b k (a+1):=sd (by rw[fP,vk,vk]) λi d=>by
 rw[fP,vk]at d;rw[ls _ _ _ _ (by rw[vk];exact g),B5 d,B5 d];by_cases e:k+a=i
 .subst e;rw[s ax,s S,DT]
 .by_cases f:k<=i/\i<k+a
  .rw[M S,s f,s S]
  .rw[M S,M f,M S]
def aoK{r}{c}{b}{x v}(a:∀i,aw x (Y r i 0))(d:aw x c)(f:∀i,aw v (Y b i 0)) k g i:aw (x+v+1) (Y (pd r c b k g) i 0):=by
 by_cases l:i<G r
 .rw[B5 l];split
  .exact(((a i).le S).sub<|d.mul<|f _).le S
  .exact(a i).le S
 .rw[cF _ (by rw[vk];omega)];exact aw.zero _
def gV(a b:V Z)(n m:I):I->V Z×V Z
 |0=>(bh m 0,a)
 |k+1=>((gV a b n m k).1.set (m-1-k)<|(gV a b n m k).2.getD (m-1-k+n) 0,pd (gV a b n m k).2 ((gV a b n m k).2.getD (m-1-k+n) 0) b (m-1-k)<|G b)
def NU(a b n m):∀k,(gV a b n m k).1.length=m/\(gV a b n m k).2.length=G a
 |0=>⟨fo,J⟩
 |k+1=>by let ⟨c,h2⟩:=NU a b n m k;exact⟨by rw[gV,fP,c],by rw[gV,vk,h2]⟩
def Uk{a b:V Z}{f v:I}(c:∀i,aw f (Y a i 0))(d:∀i,aw v (Y b i 0))(n m:I):∀k i,aw (f+k*(v+1)) ((gV a b n m k).2.getD i 0)
 |0,i=>(c i).le S
 |k+1,i=>by rw[gV];exact(aoK (Uk c d n m k) (Uk c d n m k _) d _ _ i).le (by rw[g7,iL];omega)
def acY a b n m R v(hn:G b=n+1)(hm:G a=n+m)(Bd:0<m)(la:G a<=100)(hu:R<=100000)(hv:v<=100000)(ha:∀i,aw R (Y a i 0))(U:∀i,aw v (Y b i 0)) W d(hq:d=ae->W=(gV a b n m m).1/\∀i,i<n->(gV a b n m m).2.getD i 0=0)(hd:d=ah->W=[]/\∃i,i<n/\(gV a b n m m).2.getD i 0≠0):
  af Tryz.prog 282 [N .z a,N .z b] (.t [(ah,[.S .z W]),(ah,[.B d])]):=by
 refine aD Tryz.func282 ?_
 refine e J<|e J<|L<|e J<|z J (λh=>?_)<|λh=>ai ?_
 .have h:(G a:Z)<=(G b:Z)-1:=az h;exact absurd h S
 refine t<|Qt J J J J J J J J ?_ ?_<|o J ?_
 .show(G a+G a/4+192)*32<=_;omega
 .show G a*2<=_;omega
 have ez:(G a:Z)-((G b:Z)-1)=(m:Z):=S
 refine t<|rm .z m J J J J J J (λg=>xr g) ez ?_ ?_<|o J ?_
 .show m*32<=_;omega
 .show m*2<=_;omega
 refine L<|e J ?_
 rw[fo]
 refine q<|aK (α:=I) (λk=>⟨[(1,N .z b),(6,D n),(7,.c<|.X 3001000),(8,.c<|.X 4004000),(9,D<|(m:Z)-1-k)],[(4004000,.vec 44 .z (gV a b n m k).1),(3001000,.vec 44 .z (gV a b n m k).2)],6,[]⟩) (λk=>k<=m) (λk=>m-k) 0 (aW _) (wk ⟨sR J,sE J ?_,sR J,sR J,sE J ?_,T⟩<|jv J) ?_
 .exact gh (S:(G b:Z)-1=(n:Z))
 .exact gh (S:(m:Z)-1=(m:Z)-1-((0:I):Z))
 intro k hk
 let ⟨w,lr⟩:=NU a b n m k
 refine L<|e J<|z J (λp=>?_)<|λp=>?_
 .have p:k<m:=by have p:(m:Z)-1-k>=0:=az p;omega
  have A:=Uk ha U n m k;have C:gV a b n m (k+1)=((gV a b n m k).1.set (m-1-k)<|(gV a b n m k).2.getD (m-1-k+n) 0,pd (gV a b n m k).2 ((gV a b n m k).2.getD (m-1-k+n) 0) b (m-1-k)<|G b):=rfl;have hkv:k*(v+1)<=100*(v+1):=eB _ S;generalize gV a b n m k=O at*;let ⟨q0,r⟩:=O;simp only at w lr A C;have f1:ad ((m:Z)-1-k)=m-1-k:=S;have f2:ad ((m:Z)-1-k+n)=m-1-k+n:=S;generalize hc:Y r (m-1-k+n) 0=c at*;have F:aw (R+k*(v+1)) c:=by rw[<-hc];exact A _
  refine ai<|L<|q<|t<|jx (T:= .z) c J J J J ?_ ?_ (o J<|e J ?_) (hp:=?_)
  .show some (av .z<|Y r (ad<|(m:Z)-1-k+n) 0)=_;rw[f2,hc]
  .show ad ((m:Z)-1-k)<q0.length;omega
  .refine q (aK (α:=I) (λf=>⟨[(1,N .z b),(6,D n),(7,.c<|.X 3001000),(8,.c<|.X 4004000),(9,D<|(m:Z)-1-k),(44,D<|G b),(45,D f)],[(4004000,.vec 44 .z<|q0.set (m-1-k) c),(3001000,.vec 44 .z<|pd r c b (m-1-k) f)],9,[]⟩) (λf=>f<=G b) (λf=>G b-f) 0 (aW _) (wk (aS J) ⟨bE J ?_,bE J ?_,T⟩) ?_)
   .rw[f1]
   .rw[aoI]
   intro f ht;refine e J<|L<|z J (λl=>?_)<|λl=>?_
   .have l:f<G b:=by have l:(f:Z)<(G b:Z):=az l;omega
    have f3:ad ((m:Z)-1-k+f)=m-1-k+f:=S;have qT:=vk r c b (m-1-k) f;have hg:Y (pd r c b (m-1-k) f) (ad<|(m:Z)-1-k+f) 0=Y r (m-1-k+f) 0:=by rw[f3,B5 S,M S]
    have V:(q0.set (m-1-k) c).getD (ad<|(m:Z)-1-k) 0=c:=by rw[f1,ls _ _ _ _ S,s J]
    have H:af Tryz.prog 105 [aZ ((q0.set (m-1-k) c).getD (ad<|(m:Z)-1-k) 0),aZ<|Y b (ad (f:Z)) 0] (aZ<|c*Y b f 0):=by rw[V,aV];exact tb _ _ (F.sm S)<|(U f).sm S
    have K:af Tryz.prog 163 [aZ (Y (pd r c b (m-1-k) f) (ad<|(m:Z)-1-k+f) 0),aZ<|c*Y b f 0] (aZ<|Y r (m-1-k+f) 0-c*Y b f 0):=by rw[hg];exact Rd _ _ ((A _).sm S)<|(F.mul<|U f).sm S
    refine ai<|L<|q<|e J<|bs<|rc J J H (rc J J K<|jx (T:= .z) (Y r (m-1-k+f) 0-c*Y b f 0) J J J J J ?_<|o J ?_) (hp:=?_)
    .show ad ((m:Z)-1-k+f)<G (pd r c b (m-1-k) f);omega
    .refine aT<|rt J<|aA (f+1) l (S:G b-(f+1)<G b-f)<|wk (aS J) ⟨bR J,bE J ?_,T⟩;refine aC (aH.vec 44 .z) ?_;rw[f3,aoJ S]
    .simp only[Pr.an,Pr.h,num,eO,true_and,and_true];have e1:(q0.set (m-1-k) c).length=m:=by rw[fP];exact w
     omega
   .have l:f=G b:=by have l:¬(f:Z)<(G b:Z):=aL l;omega
    subst l;refine aN<|aT<|rt J<|aA (k+1) p (S:m-(k+1)<m-k)<|wk ⟨sR J,sR J,sR J,sR J,sE J ?_,T⟩ ⟨bE J ?_,bE J ?_,T⟩
    .exact gh (S:(m:Z)-1-k-1=(m:Z)-1-((k+1:I):Z))
    .rw[C]
    .rw[C]
  .simp only[Pr.an,Pr.h,num,eO,true_and,and_true];omega
 .have p:k=m:=by have p:¬(m:Z)-1-k>=0:=aL p;omega
  subst p;generalize gV a b n k k=O at*;let ⟨q0,r⟩:=O;simp only at w lr hq hd;refine aN<|ay<|cD 4004000 J J J<|cD 3001000 J J J ?_;have e1:ad ((n:Z))=n:=aV n;refine L<|e J ?_;refine q<|aK (α:=I) (λj=>⟨[(8,N .z q0),(72,N .z<|y n r),(73,D n),(74,D j)],[],7,[]⟩) (λj=>j<=n/\∀i,i<j->Y r i 0=0) (λj=>n-j) 0 ⟨aW _,λi h=>absurd h S⟩ (wk ⟨sR J,sE J ?_,sE J ?_,sR J,T⟩ T) ?_
  .show AV.c (.S .z<|y _ r)=_;rw[e1]
  .exact gh (show((y (ad (n:Z)) r).length:Z)=(n:Z)by rw[e1,il];omega)
  rintro j ⟨hj,hz⟩;refine e J<|L<|z J (λl=>?_)<|λl=>?_
  .have l:j<n:=by have l:(j:Z)<(n:Z):=az l;omega
   have eg:(y n r).getD (ad<|(j:Z)) 0=Y r j 0:=by rw[aV,DZ,s l]
   refine ai<|L<|q<|e J<|aO J J (zi<|(y n r).getD (ad<|(j:Z)) 0) J ?_;rw[eg];refine z J (λx=>?_)<|λx=>bN ?_
   .have x:Y r j 0≠0:=λbZ=>by rw[bZ]at x;cases x
    have P:d=ah:=by
     cases d with
     |true=>exact absurd ((hq J).2 j l) x
     |false=>rfl
    let ⟨E,_⟩:=hd P;subst E P;exact e J<|bc<|eH<|bt<|gf<|eH<|bt<|g8 a6 J<|Uj .z _
   .have x:Y r j 0=0:=tE.1<|nO x;refine aT<|rt J<|aA (j+1) ⟨l,λi hi=>?_⟩ MA aM;by_cases bZ:i=j
    .rw[bZ];exact x
    .exact hz i S
  .have l:j=n:=by have l:¬(j:Z)<(n:Z):=aL l;omega
   subst l;have Q:d=ae:=by
    cases d with
    |true=>rfl
    |false=>
     let ⟨_,i,i1,i2⟩:=hd J
     exact absurd (hz i i1) i2
   let ⟨E,_⟩:=hq Q;subst Q E;exact aN<|ay<|e J<|bU J
def aoL{r b}c{k}(d:k+G b<=G r):Rx.zx (pd r c b k<|G b)=Rx.zx r-Rx.K (c:O)*(Rx.X k*Rx.zx b):=Rx.ext λi=>by
 rw[Rx.xP,Rx.iQ,Rx.nP,Rx.jk,Rx.jk];by_cases a:i<G r
 .rw[B5 a];by_cases e:k<=i/\i<k+G b
  .rw[s e,s e.1,Rx.jk,IA,iF]
  .rw[M e];split
   .rw[Rx.jk,cF b S,I1];grind
   .grind
 .rw[cF _ (show G (pd r c b k<|G b)<=i by rw[vk];omega),cF r S];split
  .rw[Rx.jk,cF b S,I1];grind
  .grind
def acZ{l}{k}b(a:k<G l)(c:Y l k 0=0):Rx.zx (l.set k b)=Rx.zx l+Rx.K (b:O)*Rx.X k:=Rx.ext λi=>by
 rw[Rx.eR,Rx.iQ,Rx.Ir,Rx.jk,Rx.jk,ls _ _ _ _ a];by_cases e:k=i
 .subst e;rw[s J,s J,c,I1];grind
 .rw[M e,M<|λa=>e a.symm];grind
def ac0{a b:V Z}{n m:I}(E:G b=n+1)(F:G a=n+m)(g:Y b n 0=1):∀c,c<=m->
  Rx.zx a=Rx.zx (gV a b n m c).1*Rx.zx b+Rx.zx (gV a b n m c).2/\(∀i,i<m-c->(gV a b n m c).1.getD i 0=0)/\(∀i,n+(m-c)<=i->(gV a b n m c).2.getD i 0=0)/\(1<=c->(gV a b n m c).1.getD (m-1) 0=Y a (m-1+n) 0)
 |0,_=>by
  have k:∀i,Y (bh m (0:Z)) i 0=0:=λi=>by rw[aF,j9];split<;>rfl
  refine⟨?_,λi _=>k i,λi l=>cF a S,λh=>absurd h S⟩;show Rx.zx a=Rx.zx (bh m 0)*Rx.zx b+Rx.zx a;rw[show Rx.zx (bh m (0:Z))=0 from Rx.ext λi=>by rw[Rx.jk,k];rfl,Rx.zero_mul,Rx.zero_add]
 |c+1,C=>by
  let ⟨p,h2,d,v⟩:=ac0 E F g c S;let ⟨l1,l2⟩:=NU a b n m c;have B:c=0->(gV a b n m c).2=a:=λe=>by subst e;rfl
  rw[gV];generalize gV a b n m c=x at*;let ⟨q,r⟩:=x;simp only at p h2 d v l1 l2 B⊢;refine⟨?_,λi l=>?_,λi l=>?_,λ_=>?_⟩
  .rw[acZ _ S (h2 _ S),aoL _ S,p,Rx.add_mul,Rx.mul_assoc (Rx.K _)<|Rx.X _];generalize Rx.K ((Y r (m-1-c+n) 0:Z):O)*(Rx.X (m-1-c)*Rx.zx b)=u;rw[Rx.add_assoc,Rx.add_comm u,Rx.kL]
  .rw[ls _ _ _ _ S,M S,h2 i S]
  .by_cases f:i<G r
   .rw[B5 f];by_cases e:i=m-1-c+n
    .rw[s S,e,(S:m-1-c+n-(m-1-c)=n),g,lA,Bs]
    .split
     .rw[d i S,cF b (i:=i-(m-1-c)) S,dI];rfl
     .exact d i S
   .exact cF _ (by rw[vk];omega)
  .rw[ls _ _ _ _ S];by_cases e:c=0
   .subst e;rw[s S,B J,wb]
   .rw[M S,v S]
def aoM(a b:V Z)(c:G a<G b)(d:G b<=1000):af j 282 [N .z a,N .z b] (.t [(ah,[.S .z []]),(ah,[.B ah])]):=by
 refine aD Tryz.func282 ?_;refine e J<|e J<|L<|e J<|z J (λh=>?_)<|λh=>?_
 .exact e J<|bc<|bt<|g8 a6 J<|Uj .z _
 .have h:¬(G a:Z)<=(G b:Z)-1:=aL h;exact absurd c S
open Classical in
noncomputable def I2(a b:V Z):AV:=if Rx.zx b∣Rx.zx a then .t [(ah,[.S .z (j0 a b)]),(ah,[.B ae])]else .t [(ah,[.S .z []]),(ah,[.B ah])]
def ac1{a b}(c:Rx.zx b∣Rx.zx a):I2 a b= .t [(ah,[.S .z (j0 a b)]),(ah,[.B ae])]:=by unfold I2;rw[s c]
def Ul{a b}(c:¬Rx.zx b∣Rx.zx a):I2 a b= .t [(ah,[.S .z []]),(ah,[.B ah])]:=by unfold I2;rw[M c]
def aoN{a b}{k v}(x:aG a)(f:aG b)(P:G a<=100)(lb:G b<=1000)(Q:k<=100000)(R:v<=100000)(U:∀i,aw k (Y a i 0))(W:∀i,aw v (Y b i 0)):af j 282 [N .z a,N .z b] (I2 a b):=by
 have M:=bX.2 f.1;have B:Rx.zx a≠0:=(Rx.mZ x).ne;by_cases C:G a<G b
 .rw[Ul λd=>?_]
  .exact aoM a b C lb
  .have:=Rx.fV d B;rw[Rx.jZ x.can,Rx.jZ f.can]at this;omega
 .obtain⟨n,l⟩:∃n,G b=n+1:=⟨G b-1,S⟩;obtain⟨m,p⟩:∃m,G a=n+m:=⟨G a-n,S⟩;have E:Y b n 0=1:=by have:=f.2;rwa[l,eJ]at this
  have F:Y a (m-1+n) 0=1:=by have:=x.2;rwa[p,(S:n+m-1=m-1+n)]at this
  let ⟨g,_,X,w⟩:=ac0 l p E m<|a8 _;let ⟨l1,l2⟩:=NU a b n m m;have o:aG (gV a b n m m).1:=⟨λe=>by rw[e]at l1;simp at l1;omega,by rw[l1,w S,F]⟩;by_cases H:∀i,i<n->(gV a b n m m).2.getD i 0=0
  .have y:Rx.zx (gV a b n m m).2=0:=Rx.ext λi=>by
    rw[Rx.jk];by_cases r:i<n
    .rw[H i r];rfl
    .rw[X i S];rfl
   rw[y,Rx.add_zero]at g;have d:Rx.zx b∣Rx.zx a:=⟨_,g⟩;have c:∃q,aG q/\Rx.zx a=Rx.zx b*Rx.zx q:=⟨_,o,by rw[Rx.mul_comm];exact g⟩;have D:j0 a b=wm c:=by unfold j0;rw[dif_pos c]
   let ⟨c1,s⟩:=qL c;rw[<-D]at c1 s;have eq:j0 a b=(gV a b n m m).1:=Rx.acr c1.can o.can (Rx.qN (Rx.mZ f).ne<|by rw[<-g,s,Rx.mul_comm]);rw[ac1 d];exact acY a b n m k v l p S P Q R U W _ ae (λ_=>⟨eq,H⟩)<|λh=>bS
  .have c:∃i,i<n/\(gV a b n m m).2.getD i 0≠0:=dQ λK=>H λi r=>dQ λh=>K ⟨i,r,h⟩
   rw[Ul λd=>?_]
   .exact acY a b n m k v l p S P Q R U W _ ah (λh=>bS)<|λ_=>⟨J,c⟩
   .rw[g]at d;have I:=Rx.uR d<|Rx.dvd_mul_left _ _;have L:=Rx.rY I (by
     rw[Rx.jZ f.can];have:=Rx.u6 (A:=Rx.zx (gV a b n m m).2) (n:=n) λi r=>by rw[Rx.jk,X i S];rfl
     omega)
    let ⟨i,_,i2⟩:=c;have t:Rx.zx (gV a b n m m).2 i=(0:Rx) i:=by rw[L]
    rw[Rx.jk]at t;exact i2<|TS.1 t
section
variable{P:cT}
def aoO{g}:∀(vs:V AV)(a:V bH)(i:I)(all:V bH),G a=G vs->(∀c,c<G a->all[i+c]? =a[c]?)->(∀f v,w f (k8 i vs)=some v->bI g v (all.toArray.getD f undef))->ju g vs a:=by
 intro vs;induction vs with
 |nil=>intro a i all hl _ _;exact et wU
 |cons x vs B=>
  intro a i all hl b n
  cases a with
  |nil=>simp at hl
  |cons u a=>
   refine⟨u,a,J,?_,B a (i+1) all wU ?_ ?_⟩
   .have C:=n i x (by simp[k8,w]);have p:=b 0 ax;simp only[jE,yI]at p;simpa[p]using C
   .intro c hj;have:=b (c+1) xc;rw[(S:i+1+c=i+(c+1))];simpa using this
   .intro f v r;refine n f v ?_;have k:∀(l:V AV)(d:I),i<d->∀v,w i (k8 d l)=some v->False:=by
     intro l;induction l with
     |nil=>intro d _ v h;simp[k8,w]at h
     |cons y l m=>
      intro d E v h
      simp only[k8,w]at h
      split at h
      .omega
      .exact m (d+1) S v h
    simp only[k8,w];split
    .rename_i e;subst e;exact(k vs (i+1) S v r).elim
    .exact r
open Classical in
end
section
variable{P:cT}{tt:TT}
def aoP{Fe:Fence}{n}{c}{α:Type}(U:α->Act->da->Prop)(W:α->I){Q:Exit->Act->da->Prop} x{a}{i}(F:U x a i)
  (round:∀x a i,U x a i->c.wpIn Fe n P (Exit.then (λB E=>∃H,U H B E/\W H<W x) Q) a i):(Code.loop c).wpIn Fe n P Q a i:=by
 intro b k X h o q
 have s:∀j x a i,W x=j->U x a i->
   ∃e B E,Q e B E/\ArrivesIn (Machine.fenced P Fe) P (lone (b.atR a<|.code c:: .inLoop c::k) X i) b k X e B E:=by
  intro j
  induction j using Nat.strongRecOn with
  |_ j u=>
   intro x a i y z
   let ⟨e,f,g,p,d⟩:=round x a i z b (.inLoop c::k) X h o q
   cases e with
   |normal=>
    let ⟨H,r,t⟩:=p
    let ⟨C,K,R,v,m⟩:=u (W H) (y▸t) H f g J r
    exact⟨C,K,R,v,.of_steps (StepsIn.trans d<|.one (fenced_calm o q J) stepR_inLoop) m⟩
   |exit id=>exact⟨_,f,g,p,.pass (x:= .inLoop c) J (λ_ _=> .inl ax) d⟩
   |goto l=>exact⟨_,f,g,p,.pass (x:= .inLoop c) J (λ_ _=> .inl ax) d⟩
   |ret=>exact⟨_,f,g,p,.pass (x:= .inLoop c) J (λ_ _=> .inl ax) d⟩
   |panic ch=>exact⟨_,f,g,p,.pass (x:= .inLoop c) J (λ_ _=> .inl ax) d⟩
   |outgrown=>exact⟨_,f,g,p,.pass (x:= .inLoop c) J (λ_ _=> .inl ax) d⟩
 let ⟨e,B,E,p,d⟩:=s _ x a i J F
 exact⟨e,B,E,p,.of_steps (.one (fenced_calm o q J) stepR_loop) d⟩
end
def eF.re(F:eF)(W:da)(g:Gh)(k:I):eF:={F with w0:=W,H0:=g.H,own:=λb=>F.N b/\∀o:Obj,W.heap[b]? =some o->o.isCells=ae,k0:=k,γ0:=g.γ}
def jn.NV{m n:I->Prop}{g}{W}{r}{b}(i:∀(x:I)(vs:Array bH)(E:TypeId)(p:I×I),W.heap[x]? =some (.cells vs E p)->m x->n x)(a:jn m g W r b):jn n g W r b:=by
 cases b with
 |box E sz cs=>
  let ⟨b,vs,rest,e,hh,k,c,d⟩:=a
  exact⟨b,vs,rest,e,hh,k,i _ _ _ _ hh c,d⟩
 |vec E T xs=>
  rcases a with a|⟨b,cap,vs,e,hh,v,h2,l,B,c,d⟩
  .exact .inl a
  .exact .inr ⟨b,cap,vs,e,hh,v,h2,l,B,i _ _ _ _ hh c,d⟩
 |fX f first caps=>exact a
 |fz E cs=>
  let ⟨b,vs,rest,e,hh,k,c,d⟩:=a
  exact⟨b,vs,rest,e,hh,k,i _ _ _ _ hh c,d⟩
section
variable{F:eF}{k k':I}{σ σ':Kn}{g g':Gh}{W W':da}{a a':Act}
def bu.re(c:bu F (·<k) σ g W a):bu (F.re W g k) (·<k) σ g W a:=by refine⟨c.size,c.defers,c.gM,λf b i=>(c.db f b i).NV ?_,c.inj,c.ar,c.fD,c.sub,⟨J,J,J,a8 _,λ_ _ _=>rfl⟩,cz.refl _,λ_ _ _ _=>rfl,λf d=>⟨d,J⟩⟩;intro x vs E p l m;refine .inr ⟨m,λo ho=>?_⟩;rw[l]at ho;cases ho;rfl
def bu.un(d:bu F (·<k) σ g W a)(c:bu (F.re W g k) (·<k') σ' g' W' a'):
  bu F (·<k') σ' g' W' a'/\Um W W'/\iT (·<k) g g':=by
 refine⟨⟨c.size,c.defers,c.gM,λm b B=>(c.db m b B).NV ?_,c.inj,c.ar,c.fD,c.sub,?_,d.le.trans c.le,?_,?_⟩,?_,c.le,λm l=>(c.iJ m l).2⟩
 .intro x vs E p K r;rcases r with r|r
  .exact .inl<|cQ d.below.size r
  .exact r.1
 .refine⟨c.below.os.trans d.below.os,c.below.tape.trans d.below.tape,c.below.output.trans d.below.output,cQ d.below.size c.below.size,λj n f=>?_⟩;rw[<-d.below.block j n f];refine c.below.block j (jD n d.below.size)<|λv=>?_;rcases v.1 with i|i
  .omega
  .exact f i
 .intro b o B f;rw[<-d.fresh b o B f];refine c.fresh b o (jD B d.below.size)<|λv=>?_;rcases v.1 with i|i
  .omega
  .exact f i
 .intro m l;have i:=d.iJ m l;have C:=c.iJ m i.1;exact⟨C.1,C.2.trans i.2⟩
 .refine⟨c.below.size,λj o n H=>?_⟩;rw[<-n];refine c.below.block j (jP.1 n).1<|λv=>?_;rw[v.2 o n]at H;cases H
structure WX(B:I)(W W':da):Prop where
 os:W'.os=W.os
 tape:W'.tape=W.tape
 output:W'.output=W.output
 size:W.heap.size<=W'.heap.size
 same:∀(k:I)(o:Obj),W.heap[k]? =some o->o.isCells=ae\/k<B->W'.heap[k]? =some o
def bu.wx{d:I->Prop}(c:bu F d σ g W a)(i:WX F.w0.heap.size W W'):bu F d σ g W' a:=by
 refine⟨c.size,c.defers,c.gM,λK b P=>?_,c.inj,c.ar,c.fD,?_,⟨i.os.trans c.below.os,i.tape.trans c.below.tape,i.output.trans c.below.output,cQ c.below.size i.size,λj r x=>?_⟩,c.le,c.fresh,c.iJ⟩
 .have l:=c.db K b P;cases b with
  |box E sz cs=>
   let ⟨b,vs,rest,e,hh,l,m,n⟩:=l
   exact⟨b,vs,rest,e,i.same _ _ hh<|.inl J,l,m,n⟩
  |vec E T xs=>
   rcases l with c|⟨b,cap,vs,e,hh,Q,h2,B,R,m,n⟩
   .exact .inl c
   .exact .inr ⟨b,cap,vs,e,i.same _ _ hh<|.inl J,Q,h2,B,R,m,n⟩
  |fX f first caps=>exact l
  |fz E cs=>
   let ⟨b,vs,rest,e,hh,l,m,n⟩:=l
   exact⟨b,vs,rest,e,i.same _ _ hh<|.inl J,l,m,n⟩
 .intro b o v U;have C:=c.sub b o v U;let ⟨s,H,X⟩:=cells_of_cell C;rw[<-C];exact World.cell?_of_block<|(i.same _ _ H<|.inl X).trans H.symm
 .have q:j<W.heap.size:=jD r c.below.size;have p:W.heap[j]? =some W.heap[j]:=P0 q;rw[i.same j _ p (.inr r),<-c.below.block j r x,p]
def WX.refl B W:WX B W W:=⟨J,J,J,a8 _,λ_ _ h _=>h⟩
def WX.trans{B}{d C f}(b:WX B d C)(c:WX B C f):WX B d f:=
 ⟨c.os.trans b.os,c.tape.trans b.tape,c.output.trans b.output,cQ b.size c.size,λk o l i=>c.same k o (b.same k o l i) i⟩
def WX.alloc B W(b:Obj):WX B W (W.alloc b):=
 ⟨J,J,J,ax,λk _ c _=>(Below.heap_alloc W b k (jP.1 c).1).trans c⟩
def WX.putObj{B}{W}{l}{f:Obj}(i:Obj)(m:W.heap[l]? =some f)(n:f.isCells=ah)(p:B<=l):WX B W (W.putObj l i):=
 ⟨J,J,J,ax,λk r c b=>by
  have d:k≠l:=by
   intro e;subst e;rw[m]at c;cases c;rcases b with b|b
   .rw[n]at b;cases b
   .omega
  rw[Un d];exact c⟩
def Gh.new(g:Gh)(k:I)(c:bH):Gh:=⟨g.H,λb=>if b=k then c else g.γ b⟩
end
section
variable{P:cT}{Fe:Fence}{n:I}{Q:Exit->Act->da->Prop}{a:Act}{w:da}
def aoQ{c}(F:c.wpIn Fe n P (Exit.noGoto Q) a w):(Code.scope c).wpIn Fe n P Q a w:=by
 intro b k i v x B;have m:step P (lone (b.atR a<|.code (.scope c)::k) i w)= .next (lone (b.atR a<|.code c:: .inScope c::k) i w):=step_lone_go (by simp[Go.stepG,aoR,Frame.atR])
 have s2:∀a w,step P (lone (b.atR a<|.inScope c::k) i w)= .next (lone (b.atR a k) i w):=λa w=>step_lone_go (by simp[Go.stepG,aoR,Frame.atR])
 have p:(lone (b.atR a<|.code (.scope c)::k) i w).fenced P Fe:=fenced_calm x B J;let ⟨e,f,g,r,d⟩:=F b (.inScope c::k) i v x B;cases e with
 |normal=>exact⟨.normal,f,g,r,.head p m<|StepsIn.trans d<|.one (fenced_calm x B J)<|s2 _ _⟩
 |exit id=>
  refine⟨.exit id,f,g,r,λH C=> .head p m (d.1 H<|by simp[exitTo,C]),λE C=>?_⟩
  let ⟨k₁,K,h2⟩:=d.2 E (by simp[exitTo,C])
  exact⟨k₁,K,.head p m h2⟩
 |goto l=>exact r.elim
 |ret=>exact⟨_,f,g,r,.of_steps (.one p m) d⟩
 |panic ch=>exact⟨_,f,g,r,.of_steps (.one p m) d⟩
 |outgrown=>exact⟨_,f,g,r,.of_steps (.one p m) d⟩
end
section
variable{P:cT}{tt:TT}
def sj(fn:FuncId)(tmps:Array bH)(p:I)(a c:Code)(d:I)(b:Option Code):Loop:=
 {state:=if b.isNone then .ready else .done,pending:=b,fn:=fn,tmps:=tmps,params:= #[p],assign:=a,body:=c,defers:=d}
variable{F:eF}{dep n avu n0:I}{a0:Act}{ds0:V Deferred}{kt l:I}{m5:FuncId}{p D:I}{j3 bd:Code}{mk:V I}
end
def sk(a:I):Deferred:={target:= .collected a,args:= #[]}
section
variable{P:cT}{tt:TT}
def ac2{n:Func}{a:Array bH}{R:Ending->da->Prop}{B:I}:∀(mk:V I)(W:da),(∀c∈mk,W.heap[c]? =some (.deferred<|some [])/\B<=c)->mk.Nodup->
  (∀d,WX B W d->∃v,(results n a).run P d= .ok v d/\R (.returned v) d)->LeavesInM (iC none) 0 P n a R (mk.map sk) .returning W
 |[],W,_,_,g=>g W<|WX.refl _ _
 |c::mk,W,hm,f,g=>by
  have i:=hm c ax;have p:=WX.putObj (B:=B) (.deferred none) i.1 J i.2;refine⟨ax,.inl ⟨c,_,J,run_takeDeferred i.1,?_⟩⟩;refine ac2 mk _ (λk b=>⟨?_,(hm k<|by simp[b]).2⟩) (yD.1 f).2<|λd l=>g d<|p.trans l;have m:k≠c:=λe=>(yD.1 f).1<|e▸b
  rw[Un m];exact(hm k<|by simp[b]).1
end
section
variable{P:cT}{tt:TT}
def aoT{d}{m}{st}{Q:St->Prop}{F}{id}{R:Exit->Act->da->Prop}(vz:yF F.rd d)(Ap:P.follows .mixedOrders=ae)(bW:RG P F.n d m st.nx 0 d.toList st [] Q)
  (hQ:∀p,Q p->∀g W a,bu F (kb p) p.kn g W a->R .normal a W) {g}{W}{a}(h0:bu F (kb st) st.kn g W a):(Code.region id d m).wpIn (iC F.rd) 0 P R a W:=by
 let ⟨ds,p,hl,L,h2,M,N,O,T,V⟩:=bW ax
 have Z:G ds=d.size:=wU
 have z:∀i,i<d.size->yG P F.n d i ((Y ds i ([],[])).1) ((Y ds i ([],[])).2) (rq (λi=>1000000*st.nx+1000*i) i):=by intro i t;have:=L i S;rw[AD ds _ i S];simpa using this
 have A:∀i,i<d.size->∀s∈(Y ds i ([],[])).1,fold (λi=>(Y ds i ([],[])).2) st.kn (be i) s.1=some s.2:=by intro i t s X;rw[Ka ds st.kn i S];rw[AD ds _ i S]at X;exact h2 i S s X
 have C:∀g W a,bu F (·<1000000*st.nx+1000*d.size) (fold (λi=>(Y ds i ([],[])).2) st.kn<|be d.size) g W a->R .normal a W:=by intro g W a D;refine hQ p V g W a ?_;rw[M];rw[Ka ds st.kn d.size S,iI S]at D;exact D.weaken (λid eo=>by simp only[kb,N];omega)
 cases m with
 |false=>exact WA (c:=λi=>1000000*st.nx+1000*i) (λi=>Kb) h0 z A C vz
 |true=>
  let ⟨e,⟨sM,u⟩,o⟩:=T J
  have I:=Xc o
  have r:∀i j,i<j->j<d.size->∀a b:Ks,(e[i]? =some a->e[j]? =some b->rD a b=ae->ob d i j):=by intro i j l B a b E H hc;exact I.2 i j a b l B (by simpa using E) (by simpa using H) hc
  have f:∀i(t:i<d.size),∃a,e[i]? =some a/\(∀k∈gn (Y ds i ([],[])).1,k∈a.1)/\∀k∈oc (Y ds i ([],[])).2,k∈a.2:=by intro i t;have q:i<G e:=S;refine⟨e[i],bD q,?_⟩;rw[AD ds _ i S];exact u i S q
  refine WB (c:=λi=>1000000*st.nx+1000*i) (λi=>Kb) Ap I.1 h0 z A ?_ ?_ ?_ C vz
  .intro i j l B k v x;let ⟨a,E,_,K⟩:=f i S;let ⟨b,H,_,U⟩:=f j B;exact r i j l B a b E H (by simp only[rD,C6 (K k v)<|U k x,Kc])
  .intro i j l B k v x;let ⟨a,E,_,K⟩:=f i S;let ⟨b,H,w,_⟩:=f j B;exact r i j l B a b E H (by simp only[rD,C6 (K k v)<|w k x,Kc,Kd])
  .intro i j l B k v x;let ⟨a,E,y,_⟩:=f i S;let ⟨b,H,_,U⟩:=f j B;exact r i j l B a b E H (by simp only[rD,C6 (y k v)<|U k x,Kd])
def eF.dr(F:eF)(ds:V Deferred):eF:={F with ds:=ds}
abbrev vn:=eF->V Deferred->da->Prop
def z5(a:vn):Prop:=∀F b W c,Um W c->a F b W->a F b c
variable{n:I}{Q:ix}{st:St}{O:vn}
def gW(n:I)(c:Exit)(st:St)(O:vn)(Q:ix):Prop:=∀F:eF,F.n=n->F.k0<=1->∀b g W a,bu (F.dr b) (kb st) st.kn g W a->O F b W->Q F c a W
def TJ(P:cT)(n:I)(c:Code)(st:St)(O:vn)(Q:ix):Prop:=∀F:eF,F.n=n->F.k0<=1->pA F.rd c->∀b g W a,bu (F.dr b) (kb st) st.kn g W a->O F b W->c.wpIn (iC F.rd) 0 P (Q F) a W
def NW(P:cT)(b:Code)(Q:ix):ix:=λF=>Exit.then (λa W=>pA F.rd b->b.wpIn (iC F.rd) 0 P (Q F) a W)<|Q F
def B6(a:I)(Q:ix):ix:=λF=>Ga a<|Q F
def I3{c:Type}(b:c->St)(k:c->Prop)(f:c->I)(x:c)(O:vn)(Q:ix):ix:=λF=>Exit.then (λa W=>∃d g i,k d/\f d<f x/\bu (F.dr i) (kb<|b d) (b d).kn g W a/\O F i W)<|Q F
def p7{x c}(f:TJ P n x st O (NW P c Q)):TJ P n (.seq x c) st O Q:=λF i k b l g W a m p=>by
 let ⟨r,h2⟩:=b.seq;refine wpIn_seq<|wpIn_mono (f F i k r l g W a m p) ?_;intro e v B d;cases e with
 |normal=>exact d h2
 |_=>exact d
def B7(b:gW n .normal st O Q):TJ P n .skip st O Q:=λF c d _ f g W a i k=>wpIn_skip<|b F c d f g W a i k
def aoU{l}(b:gW n .normal st O Q):TJ P n (.label l) st O Q:=λF c d _ f g W a i k=>wpIn_label<|b F c d f g W a i k
def I4{b}(c:gW n (.exit b) st O Q):TJ P n (.exit b) st O Q:=λF d f _ i g W a k l=>wpIn_exit<|c F d f i g W a k l
def ac3(b:gW n .ret st O Q):TJ P n .ret st O Q:=λF c d _ f g W a i k=>wpIn_ret<|b F c d f g W a i k
def tU{d}{c}(f:TJ P n c st O (B6 d Q)):TJ P n (.block d c) st O Q:=λF i k b l g W a m p=>wpIn_block<|f F i k b l g W a m p
def wG{c}{x i}{b}(r:st.ev c=some (.c<|.B b))(v:b=ae->TJ P n x st O Q)(E:b=ah->TJ P n i st O Q):TJ P n (.cond c x i) st O Q:=by intro F k l d m g W a f p;let ⟨C,h2⟩:=d.cond;have H:bI g (.c<|.B b) (a.eval c):=gO f st c _ r<|gw st c;exact wpIn_cond_split H (λe=>v e F k l C m g W a f p)<|λe=>E e F k l h2 m g W a f p
def NX{v}{c}{b}(f:P.follows .mixedOrders=ae)(x:z5 O)(B:RG P n c b st.nx 0 c.toList st [] (λd=>gW n .normal d O Q)):TJ P n (.region v c b) st O Q:=by intro F C E i l g W a p H;subst C;refine aoT (F:=(F.dr l).re W g<|1000000*st.nx) (st:=st) i.region f B (λd K R r U m=>?_)<|bu.re (k:=1000000*st.nx) p;let ⟨X,h2,_⟩:=bu.un (k:=1000000*st.nx) (k':=1000000*d.nx) p m;exact K F J E l R r U X<|x F l W r h2 H
def B8{c}{st'}(i:Wk st st')(k:TJ P n c st' O Q):TJ P n c st O Q:=by intro F l d b f g W a m p;let ⟨r,v⟩:=i (F.dr f) d g W a m;exact k F l d b f r W a v p
def ac4{b}{st'}(f:Wk st st')(i:gW n b st' O Q):gW n b st O Q:=by intro F k c d g W a l m;let ⟨p,r⟩:=f (F.dr d) c g W a l;exact i F k c d p W a r m
def n6{c}(d:TJ P n c st O Q):gW n .normal st O (NW P c Q):=λF f i k g W a l m b=>d F f i b k g W a l m
def I5{b}{a}(c:gW n (.exit a) st O Q):gW n (.exit a) st O (NW P b Q):=c
def ac5{a}(b:gW n .ret st O Q):gW n .ret st O (NW P a Q):=b
def z6{a}(b:gW n .normal st O Q):gW n .normal st O (B6 a Q):=b
def EO{a}(b:gW n .ret st O Q):gW n .ret st O (B6 a Q):=b
def I6{b}(c:gW n .normal st O Q):gW n (.exit b) st O (B6 b Q):=λF d f i g W a k l=>by simp only[B6,Ga,cA];exact c F d f i g W a k l
def ac6{d b}(f:gW n (.exit b) st O Q)(c:b≠d:=by decide):gW n (.exit b) st O (B6 d Q):=λF i k l g W a m p=>by simp only[B6,Ga,c,cC];exact f F i k l g W a m p
def NY{a:Type}{b:a->St}{d:a->Prop}{f:a->I}{x}{c}(g:gW n (.exit c) st O Q):gW n (.exit c) st O (I3 b d f x O Q):=g
def aoV{a:Type}{b:a->St}{c:a->Prop}{d:a->I}{x}(f:gW n .ret st O Q):gW n .ret st O (I3 b c d x O Q):=f
def B9{d:Type}{b:d->St}{i:d->Prop}{f:d->I}{x}c(l:i c)(m:f c<f x)(p:Wk st (b c)):gW n .normal st O (I3 b i f x O Q):=by intro F H r k g W a v B;let ⟨C,E⟩:=p (F.dr k) r g W a v;exact⟨c,C,k,l,m,E,B⟩
def I7{α:Type}(b:α->St)(f:α->Prop)(v:α->I) i{c}(E:f i)(H:Wk st (b i))(round:∀x,f x->TJ P n c (b x) O (I3 b f v x O Q)):TJ P n (.loop c) st O Q:=by
 intro F K B k d g W a R l;let ⟨U,X⟩:=H (F.dr d) B g W a R;refine aoP (λx a W=>f x/\∃g d,bu (F.dr d) (kb<|b x) (b x).kn g W a/\O F d W) v i ⟨E,U,d,X,l⟩ ?_;rintro x a W ⟨m,g,d,hg,l⟩;refine wpIn_mono (round x m F K B k.loop d g W a hg l) ?_;intro e s t C;cases e with
 |normal=>
  let ⟨h,p,r,j,h2,o,q⟩:=C
  exact⟨h,⟨j,p,r,o,q⟩,h2⟩
 |_=>exact C
def aoW{c}(b:TJ P n c st O (λF=>Exit.noGoto<|Q F)):TJ P n (.scope c) st O Q:=λF d f i k g W a l m=>aoQ<|b F d f (i.elim .inl λe=>by cases e) k g W a l m
end
section
variable{F:eF}{sl sl':V (I×AV)}{M M':V (I×aH)}{nx nx':I}{gd gd':V (I×Bool)}{g g':Gh}{W W':da}{a a':Act}{K:I->Prop}
def bu.frame{n'}{ds'}{rd'}(d:bu F K (St.kn ⟨sl,M,nx,gd⟩) g W a)(Q:a'.tmps.size=n')(R:a'.defers=ds')(i:∀r v,w r sl'=some v->bI g v (a'.tmps.getD r undef)/\∀c∈v.ar,K c)(U:∀c b,w c M'=some b->w c M=some b):
  bu {F with n:=n',ds:=ds',rd:=rd'} K (St.kn ⟨sl',M',nx',gd'⟩) g W a':=by
 have l:∀c x,(St.kn ⟨sl',M',nx',gd'⟩) (.m c)=some x->(St.kn ⟨sl,M,nx,gd⟩) (.m c)=some x:=by intro c x f;simp only[St.kn,cd]at f⊢;let ⟨b,B,e⟩:=f;exact⟨b,U c b B,e⟩
 refine⟨Q,R,λr v P=>?_,λc b B=>d.db c b<|l _ _ B,λc C b X k o q u z=>d.inj c C b X k (l _ _ o) (l _ _ q) u z,λE x f c p=>?_,λc x f=>d.fD c x<|l _ _ f,d.sub,d.below,d.le,d.fresh,d.iJ⟩
 .simp only[St.kn,cd]at P;let ⟨y,H,e⟩:=P;cases e;exact(i r v H).1
 .cases E with
  |m j=>exact d.ar (.m j) x (l _ _ f) c p
  |s j=>
   simp only[St.kn,cd]at f
   let ⟨y,H,e⟩:=f
   subst e
   exact(i j y H).2 c p
def bu.re1{k}{d}(f:bu F (·<k) d g W a)(l:1<=k):bu (F.re W g 1) (·<k) d g W a:=by have b:=f.re;exact⟨b.size,b.defers,b.gM,b.db,b.inj,b.ar,b.fD,b.sub,b.below,b.le,b.fresh,λi c=>⟨by have:i<1:=c;omega,J⟩⟩
def bu.un1{k k'}{Q r}(d:bu F (·<k) Q g W a)(R:F.k0<=1)(c:bu (F.re W g 1) (·<k') r g' W' a'):
  bu F (·<k') r g' W' a'/\Um W W'/\iT (·<1) g g':=by
 refine⟨⟨c.size,c.defers,c.gM,λi b C=>(c.db i b C).NV ?_,c.inj,c.ar,c.fD,c.sub,?_,d.le.trans c.le,?_,?_⟩,?_,c.le,λi l=>(c.iJ i l).2⟩
 .intro x vs E p U v;rcases v with v|v
  .exact .inl<|cQ d.below.size v
  .exact v.1
 .refine⟨c.below.os.trans d.below.os,c.below.tape.trans d.below.tape,c.below.output.trans d.below.output,cQ d.below.size c.below.size,λj n f=>?_⟩;rw[<-d.below.block j n f];refine c.below.block j (jD n d.below.size)<|λB=>?_;rcases B.1 with m|m
  .omega
  .exact f m
 .intro b o C f;rw[<-d.fresh b o C f];refine c.fresh b o (jD C d.below.size)<|λB=>?_;rcases B.1 with m|m
  .omega
  .exact f m
 .intro i l;have m:=d.iJ i l;have H:=c.iJ i (S:i<1);exact⟨H.1,H.2.trans m.2⟩
 .refine⟨c.below.size,λj o n P=>?_⟩;rw[<-n];refine c.below.block j (jP.1 n).1<|λB=>?_;rw[B.2 o n]at P;cases P
def ny(b:V bH):bH:= .func (.func 0) #[] b.toArray
def bu.ghost{k}(n:bu F (·<k) (St.kn ⟨sl,M,nx,gd⟩) g W a)(hk:1<=k)(s5:F.k0=0)(hz:∀U v,w U sl=some v->0∉v.ar)(I9:∀c b,w c M=some b->c≠0/\0∉b.ar){d}{E}(hr:dt g d E)(hc:∀c∈fN d,c≠0/\c<k):
  bu {F with k0:=1,γ0:=λ_=>ny E} (·<k) (St.kn ⟨sl,(0,.fX 0 [] d)::M,nx',gd'⟩) (g.new 0<|ny E) W a:=by
 have C:iT (λc=>c≠0) g (g.new 0<|ny E):=⟨cz.refl _,λc f=>by simp[Gh.new,f]⟩
 have A:Ext (λc=>c≠0) (λ_=>False) g W (g.new 0<|ny E) W:=⟨C,λ_ _ _=>rfl,n.sub,a8 _,λ_ _ _=>rfl,J,J,J⟩
 have r:(g.new 0<|ny E).γ 0=ny E:=by simp[Gh.new]
 have X:∀c b,(St.kn ⟨sl,(0,.fX 0 [] d)::M,nx',gd'⟩) (.m c)=some (.b b)->(c=0/\b= .fX 0 [] d)\/(c≠0/\w c M=some b):=by
  intro c b P;simp only[St.kn,w,cd]at P;let ⟨y,Q,e⟩:=P;cases e;split at Q
  .rename_i e;cases Q;exact .inl ⟨e.symm,J⟩
  .rename_i e;exact .inr ⟨λn=>e n.symm,Q⟩
 have B:∀c b,w c M=some b->(St.kn ⟨sl,M,nx,gd⟩) (.m c)=some (.b b):=λc b P=>by simp[St.kn,P]
 refine⟨n.size,n.defers,λU v u=>?_,λc b P=>?_,λc R b z o D G I L=>?_,λq x p c f=>?_,λc x p=>?_,n.sub,n.below,n.le,n.fresh,λc f=>?_⟩
 .simp only[St.kn,cd]at u;let ⟨y,Q,e⟩:=u;cases e;exact bI.mono C (λc f e=>hz U v Q<|e▸f) (n.gM U v<|by simp[St.kn,Q])
 .rcases X c b P with⟨rfl,rfl⟩|⟨i,l⟩
  .exact⟨[],E,r,J,dt.mono C (λc f=>(hc c f).1) hr⟩
  .exact(n.db c b<|B c b l).step A i (λj N e=>(I9 c b l).2<|e▸N)<|λ_ _ O _=>O.elim
 .have i:∀c b,(St.kn ⟨sl,(0,.fX 0 [] d)::M,nx',gd'⟩) (.m c)=some (.b b)->cP ((g.new 0<|ny E).γ c)=some o->w c M=some b/\cP (g.γ c)=some o:=by
   intro c b P H;rcases X c b P with⟨rfl,rfl⟩|⟨i,l⟩
   .rw[r]at H;simp[ny,cP]at H
   .rw[C.γ c i]at H;exact⟨l,H⟩
  let ⟨p1,S⟩:=i c b D I;let ⟨q1,T⟩:=i R z G L;exact n.inj c R b z o (B _ _ p1) (B _ _ q1) S T
 .cases q with
  |s j=>
   exact n.ar (.s j) x p c f
  |m j=>
   cases x with
   |v _=>simp[St.kn]at p
   |b y=>
    rcases X j y p with⟨rfl,rfl⟩|⟨i,l⟩
    .have:c∈fN d:=by simpa[Info.ar,aH.ar,fN]using f
     exact(hc c this).2
    .exact n.ar (.m j) (.b y) (B j y l) c f
 .cases x with
  |v _=>simp[St.kn]at p
  |b y=>
   rcases X c y p with⟨rfl,rfl⟩|⟨i,l⟩
   .exact hk
   .exact n.fD c (.b y)<|B c y l
 .have:c=0:=by have:c<1:=f;omega
  subst this;exact⟨hk,r⟩
def bu.NZ{k}{f}(i:bu F (·<k) f g W a){c}(p:F.k0=1)(d:F.γ0 0=ny c){caps}(l:f (.m 0)=some (.b<|.fX 0 [] caps)):dt g caps c:=by
 let ⟨us,vs,e,_,h2⟩:=i.db 0 _ l;have n:=(i.iJ 0 S).2;rw[n,d]at e;simp only[ny,Value.func.injEq]at e;have:c=vs:=by have:=e.2.2;simpa using this
 rw[this];exact h2
end
section
variable{P:cT}{tt:TT}
inductive SG(P:cT)(n:I)(a:Array Oper)(nx:I):I->St->I->St->Prop
 |nil {i:I} {st b:St} (h:b.kn=st.kn):SG P n a nx i st i b
 |cons {i f:I} {st c d:St} {g:Ks} (h:lI P n a i st c (1000000*nx+1000*i) g) (t:SG P n a nx (i+1) c f d):SG P n a nx i st f d
def SG.eq{n}{a}{k i l}{m b c}(d:SG P n a k i m l c)(f:b.kn=m.kn):SG P n a k i b l c:=by
 cases d with
 |nil d=>exact .nil<|d.trans f.symm
 |cons d t=>
  let ⟨rd,wr,s1,s2,p,r,v⟩:=d
  exact .cons ⟨rd,wr,s1,λx g=>by rw[f];exact s2 x g,by rw[f];exact p,r,v⟩ t
def SG.le{n}{a}{d i c}{f b}(g:SG P n a d i f c b):i<=c:=by
 induction g with
 |nil _=>exact a8 _
 |cons _ _ k=>omega
def SG.sound{n}{b}{m i k}{v c}(l:SG P n b m i v k c):∀(F:eF),F.n=n->yF F.rd b->∀(Q:Exit->Act->da->Prop)(rest:V I) g W a,bu F (·<1000000*m+1000*i) v.kn g W a->
  (∀x p r,bu F (·<1000000*m+1000*k) c.kn x p r->wpOpsIn (iC F.rd) 0 P b Q rest r p)->wpOpsIn (iC F.rd) 0 P b Q (ac9 i (k-i)++rest) a W:=by
 induction l with
 |nil l=>
  intro F B d Q rest g W a C E
  rw[gx]
  exact E g W a (by rw[l];exact C)
 |@cons i k v X c q l t e=>
  intro F B d Q rest g W a C E
  have o:=t.le
  let ⟨rd,wr,H,K,R,_,_⟩:=l
  rw[(S:k-i=(k-(i+1))+1),List.range'_succ,kU,wpOpsIn_cons]
  refine Pu (d i) ?_
  refine H F B _ (·<1000000*m+1000*i) _ g W a _ (Nat.lt_irrefl _) C K<|λx p r U=>?_
  rw[<-R]at U
  exact e F B d Q rest x p r (U.weaken<|λs f=>by rcases f with f|f<;>omega) E
def ac'{n H:I}{b:Array Oper}(l:cN P tt=ae):∀(m:V Oper)(i:I)(v:St)(p:Pr)(x:V Ks){d:V Oper}{B j:I}{c st2:St}{E:Pr}{f:V Ks},runs tt n H ah b.toList m i v p x=(d,B,c,E,f)->E->(∀g F,m[g]? =some F->b[i+g]? =some F)->(p->SG P n b H B c j st2->SG P n b H i v j st2)/\p
 |[],i,v,p,x,d,B,j,c,st2,E,f,a,hp,_=>by simp only[runs,cG]at a;obtain⟨rfl,rfl,rfl,rfl,rfl⟩:=a;exact⟨λ_ a=>a,hp⟩
 |F::m,i,v,p,x,d,B,j,c,st2,E,f,a,hp,hg=>by
  rw[runs]at a;split at a
  .rename_i C g k U;let ⟨W,g2⟩:=ac' l m (i+1) C (.an p g) (ff ah x k) (j:=j) (st2:=st2) a hp (λr X K=>by have:=hg (r+1) X (by simpa using K);rwa[(S:i+(r+1)=i+1+r)]at this);have R:p.h/\g.h:=by have:(Pr.an p g).h:=g2;cases p<;>cases g<;>simp_all[Pr.an,Pr.h]
   refine⟨λ_ Q=> .cons (W7 l (hg 0 F J) U R.2)<|W g2 Q,R.1⟩
  .simp only[cG]at a;obtain⟨rfl,rfl,rfl,rfl,rfl⟩:=a;exact⟨λ_ a=>a,hp⟩
end
structure pe where
 n0:I
 a0:Act
 S0:V (I×AV)
 caps:V (Bool×V C)
 ws:V bH
 l:I
 D:I
 m5:FuncId
 p:I
 j3:Code
 bd:Code
 ms:V I
def pe.O(R:pe)(a:Option Code):vn:=λF b W=>F.k0=1/\F.γ0 0=ny R.ws/\F.rd=none/\b=[]/\F.w0.heap.size<=R.l/\W.heap[R.l]? =some (.loop<|sj R.m5 R.a0.tmps R.p R.j3 R.bd R.D a)/\∀D∈R.ms,W.heap[D]? =some (.deferred<|some [])
def pe.ada(R:pe) b:z5 (R.O b):=λ_ _ _ _ a ⟨c,d,f,g,i,k,l⟩=>⟨c,d,f,g,i,a.same _ _ k J,λD m=>a.same _ _ (l D m) J⟩
structure pe.Ok(R:pe):Prop where
 hp:R.p<R.n0
 ki:R.a0.tmps.size=R.n0
 N0:R.l∉R.ms
 Uo:qD R.j3=ae
 Up:qD R.bd=ae
 cap:∀g,dt g R.caps R.ws->∀t v,w t R.S0=some v->bI g v (R.a0.tmps.getD t undef)
 sp:w R.p R.S0=none
def wH:vn:=λ_ a _=>a=[]
def adb:z5 wH:=λ_ _ _ _ _ h=>h
def I'(d:Bool)(c:I)(Mo:V (I×aH)):ix:=λF e a W=>e=(if d then .normal else .exit c)/\∃g b,1<=b/\bu (F.dr []) (·<1000000*b) (St.kn ⟨[],Mo,b,[]⟩) g W a
def n7(b:Bool)(a:I):Option Code:=if b then none else some (.exit a)
section
variable{P:cT}{R:pe}
def aoX(x:R.Ok){xid}{d}{v}{i}{N1 Mo}{bo}(Uq:1<=i)(N2:1<=d.nx)
  (hA:TJ P R.n0 R.j3 ⟨(R.p,v)::R.S0,N1,i,[]⟩ wH (λF B a W=>B= .normal/\∃g,bu (F.dr []) (kb d) d.kn g W a))
  (hB:TJ P R.n0 R.bd d wH (I' bo xid Mo))
 {F}{k}{slI}{nxI}{gdI}{g}{W}{aI}(bW:bu F (·<k) (St.kn ⟨slI,N1,nxI,gdI⟩) g W aI) (hk:k<=1000000*i) (N3:w 0 N1=some (.fX 0 [] R.caps)) (Ca:∀b9 v,w b9 R.S0=some v->∀Q∈v.ar,Q<k)
 {oO}(hv:bI g v oO) (Ur:v.ar=[]) (hO:R.O none F [] W) {Rr:Ending->da->Prop}
  (hR:∀g' W' c a',1<=c->bu {F with n:=R.n0,ds:=[],rd:=some R.l} (·<1000000*c) (St.kn ⟨[],Mo,c,[]⟩) g' W' a'->cz g.H g'.H->Um W W/\R.O (n7 bo xid) F [] W'->Rr (.returned<|.bool bo) W'):
  RoundIn (iC none) 0 P R.l R.m5 (R.a0.tmps.setIfInBounds R.p oO) R.j3 R.bd W Rr:=by
 let ⟨G,o2,o3,o4,N,o6,o7⟩:=hO
 have X:=bW.NZ G o2 (caps:=R.caps) (by simp[St.kn,N3])
 have h0:bu {F with n:=R.n0,ds:=[],rd:=some R.l} (·<1000000*i) (St.kn ⟨(R.p,v)::R.S0,N1,i,[]⟩) g W {tmps:=R.a0.tmps.setIfInBounds R.p oO,defers:=[]}:=by
  refine bu.frame (bW.weaken<|λQ f=>jD f hk) (by simpa using x.ki) J (λb9 U C=>?_)<|λQ b hb=>hb;simp only[w]at C;split at C
  .rename_i B;cases C;subst B;have V:R.p<R.a0.tmps.size:=by rw[x.ki];exact x.hp
   refine⟨by simpa[V]using hv,λQ f=>by rw[Ur]at f;cases f⟩
  .rename_i B;have h1:=x.cap g X b9 U C;refine⟨?_,λQ f=>jD (Ca b9 U C Q f) hk⟩;have:=nf (xs:=R.a0.tmps) (a:=oO) B;simpa[this]using h1
 refine roundIn_of_wpIn (F:=iC none) T ?_
 refine wpIn_mono (F:=iC<|some R.l) (hA (({F with n:=R.n0,ds:=[],rd:=some R.l}:eF).re W g 1) J (a8 _) (.inr x.Uo) [] g W _ (bu.re1 h0 S) J) ?_
 rintro e1 a1 W1 ⟨rfl,gB,Y⟩
 let ⟨b1,b2,b3⟩:=bu.un1 h0 (ME G) (k':=1000000*d.nx) Y
 have E:=b2.same _ _ o6 J
 refine⟨_,run_beginRound E J,?_⟩
 have j:R.l<W1.heap.size:=(jP.1 E).1
 have q:=b1.wx<|WX.putObj (.loop {sj R.m5 R.a0.tmps R.p R.j3 R.bd R.D none with state:= .busy}) E J N
 refine wpIn_mono (F:=iC<|some R.l) (hB (({F with n:=R.n0,ds:=[],rd:=some R.l}:eF).re _ gB 1) J (a8 _) (.inr x.Up) [] gB _ _ (bu.re1 (k:=1000000*d.nx) q S) J) ?_
 rintro e2 a2 I ⟨Z,gC,c,Us,Ut⟩
 let ⟨c1,c2,c3⟩:=bu.un1 q (ME G) (k':=1000000*c) Ut
 have K:=c2.same _ _ (ao1 (o:= .loop {sj R.m5 R.a0.tmps R.p R.j3 R.bd R.D none with state:= .busy}) j) J
 have s:R.l<I.heap.size:=(jP.1 K).1
 have y:∀L:Option Code,L=n7 bo xid->R.O L F [] (I.putObj R.l<|.loop<|sj R.m5 R.a0.tmps R.p R.j3 R.bd R.D L):=by
  intro L _;refine⟨G,o2,o3,J,N,ao1 s,λD' z=>?_⟩;have A:D'≠R.l:=λB=>x.N0<|B▸z
  rw[Un A];refine c2.same _ _ ?_ J;rw[Un A];exact b2.same _ _ (o7 D' z) J
 have m:=run_endRound (P:=P) (n7 bo xid) K
 have C:∀o',bu {F with n:=R.n0,ds:=[],rd:=some R.l} (·<1000000*c) (St.kn ⟨[],Mo,c,[]⟩) gC (I.putObj R.l o') a2:=λo'=>c1.wx<|WX.putObj o' K J N
 have r:∀(U:da),U=I.putObj R.l (.loop<|sj R.m5 R.a0.tmps R.p R.j3 R.bd R.D<|n7 bo xid)->Rr (.returned<|.bool (n7 bo xid).isNone) U:=by
  rintro U rfl;have:(n7 bo xid).isNone=bo:=by unfold n7;cases bo<;>rfl
  rw[this];exact hR gC _ c a2 Us (C _) (b3.H.trans c3.H) ⟨KeepsOthers.refl _,y _ J⟩
 subst Z
 cases bo with
 |true=>exact⟨_,_,m,r _ J⟩
 |false=>exact⟨_,_,m,r _ J⟩
def bu.restrict{F}{K K':I->Prop}{f}{g}{W}{a}(b:bu F K f g W a)(i:∀k x,f k=some x->∀c∈x.ar,K' c)(l:∀c x,f (.m c)=some x->K' c)(n:∀c,c<F.k0->K' c):bu F K' f g W a:=
 ⟨b.size,b.defers,b.gM,b.db,b.inj,i,l,b.sub,b.below,b.le,b.fresh,λc d=>⟨n c d,(b.iJ c d).2⟩⟩
def ao2(ok:R.Ok){n}{f}{E H Uu}{U i d j x:I}{br:Oper}{lV}(ho:f[i]? =some br)(ao3:br.dst=some d)(dZ:br.op= .call ⟨.value<|.tmp j,#[.tmp x],lV⟩)
  (hgd:br.guard=none\/∃EP want tg,br.guard=some (EP,want)/\vH f.toList EP=some tg/\w tg H.sl=some (.c<|.B want))
  (pre:SG P n f E.nx 0 E i H) {v}(hj:w j H.sl=some (.c<|.V<|.func (.yield R.l) #[] #[])) (hx:w x H.sl=some v) (Ur:v.ar=[]) (dC:d<n)
 {M Mo}(vZ:H.mem=M) (N3:w 0 M=some (.fX 0 [] R.caps)) (hgo:w 0 Mo=some (.fX 0 [] R.caps))
 {slk}(qT:∀b9 oO,w b9 slk=some oO->w b9 H.sl=some oO/\b9≠d/\(oO.ar=[]\/(∀g g' val,dt g R.caps R.ws->bI g oO val->dt g' R.caps R.ws->bI g' oO val)/\∀U∈oO.ar,U<1000000*E.nx))
  (yl:∀U b,w U Mo=some b->U<1000000*E.nx/\∀j∈b.ar,j<1000000*E.nx) (Mi:1<=E.nx) (hi:f.size<=1000)
 {xid}{stB:St} {nxr:I} {bo:Bool} (Uq:E.nx+1<=nxr) (N2:1<=stB.nx) (Ca:∀b9 v,w b9 R.S0=some v->∀U∈v.ar,U<1000000*E.nx)
  (hA:TJ P R.n0 R.j3 ⟨(R.p,v)::R.S0,M,nxr,[]⟩ wH (λF bZ a W=>bZ= .normal/\∃g,bu (F.dr []) (kb stB) stB.kn g W a))
  (hB:TJ P R.n0 R.bd stB wH (I' bo xid Mo)) {gd1:V (I×Bool)}
  (suf:SG P n f E.nx (i+1) ⟨(d,.c<|.B bo)::slk,Mo,E.nx,gd1⟩ f.size Uu) {Q:ix} (cont:gW n .normal ⟨Uu.sl,Uu.mem,E.nx+1,[]⟩ (R.O<|n7 bo xid) Q):
  TJ P n (.region U f ah) E (R.O none) Q:=by
 intro F hF s5 vz ds g W a hh hO
 let ⟨o1,o2,o3,o4,o5,o6,o7⟩:=hO
 subst o4
 have z:yF F.rd f:=vz.region
 have avv:i<f.size:=(jP.1 ho).1
 have T:(iC F.rd:Fence)=iC none:=by rw[o3]
 rw[T]
 refine wpIn_region ?_
 have h:be f.size=ac9 0 (i-0)++(i::(ac9 (i+1) (f.size-(i+1))++[])):=by rw[iW,List.range_eq_range',<-List.range'_succ];have:f.size-(i+1)+1=f.size-i:=S;rw[this];have:=List.range'_append (s:=0) (m:=i-0) (n:=f.size-i) (step:=1);simp only[iL,dU]at this;rw[wb]at this⊢;rw[this];congr 1;omega
 rw[h]
 have A:=pre.sound ((F.dr []).re W g<|1000000*E.nx) hF z
 have ao7:(iC ((F.dr []).re W g<|1000000*E.nx).rd:Fence)=iC none:=T
 rw[ao7]at A
 refine A _ _ g W a (bu.re (k:=1000000*E.nx) hh) ?_
 intro g1 W1 C hh1
 let ⟨K,hK1,hG1⟩:=bu.un (k:=1000000*E.nx) hh hh1
 rw[wpOpsIn_cons]
 unfold wpOpIn
 rw[ho]
 have Y:Region.wanted br (yielded f C.tmps)=ae:=by
  unfold Region.wanted;rcases hgd with hg|⟨EP,want,tg,hg,ao9,Z⟩
  .rw[hg]
  .rw[hg];have:=K.gM tg (.c<|.B want) (by simp[St.kn,Z]);simp only[PZ ao9 this];simp
 simp only[Y,cA]
 refine⟨λ_ _=>trivial,?_⟩
 have ao':C.tmps.getD j undef= .func (.yield R.l) #[] #[]:=K.gM j (.c<|.V<|.func (.yield R.l) #[] #[]) (by simp[St.kn,hj])
 have hvx:bI g1 v (C.tmps.getD x undef):=K.gM x v (by simp[St.kn,hx])
 have X:=hK1.same _ _ o6 J
 have hex:(br.semAt (iC none).round C.eval).run P W1= .ok (.round R.l R.m5 (R.a0.tmps.setIfInBounds R.p<|C.tmps.getD x undef) R.j3 R.bd) W1:=by
  show(execOp C.eval br).run P W1=_;have G:=run_yield (P:=P) (args:= #[C.tmps.getD x undef]) X J;rw[execOp,dZ];have e1:C.eval (.tmp j)= .func (.yield R.l) #[] #[]:=ao';have e3:C.eval (.tmp x)=C.tmps.getD x undef:=rfl;have e2:(#[Operand.tmp x]:Array Operand).map C.eval= #[C.tmps.getD x undef]:=by simp[e3]
  simp only[resolve,e1,e2,Deferred.ofValue,pure_bind,invoke];simpa[sj]using G
 rw[hex]
 simp only[Oper.uponIn_round]
 refine⟨λhh=>JL,?_⟩
 have CI:St.kn ⟨H.sl,M,H.nx,H.gd⟩=H.kn:=by rw[<-vZ]
 have L:bu (F.dr []) (·<1000000*E.nx+1000*i) (St.kn ⟨H.sl,M,H.nx,H.gd⟩) g1 W1 C:=by rw[CI];exact K
 refine aoX (Mo:=Mo) (bo:=bo) (xid:=xid) ok S N2 hA hB L S N3 (λb9 mc hw U r=>jD (Ca b9 mc hw U r) S) hvx Ur ⟨o1,o2,o3,J,o5,X,λD hD=>hK1.same _ _ (o7 D hD) J⟩ ?_
 intro g2 W2 nx' a' Us hC apb Uv
 let ⟨_,Uv⟩:=Uv
 have apc:=L.NZ o1 o2 (caps:=R.caps) (by simp[St.kn,N3])
 have apd:=hC.NZ o1 o2 (caps:=R.caps) (by simp[St.kn,hgo])
 simp only
 rw[ao3]
 have Ja:bu (F.dr []) (·<1000000*E.nx+1000*(i+1)) (St.kn ⟨(d,.c<|.B bo)::slk,Mo,E.nx,gd1⟩) g2 W2 {C with tmps:=C.tmps.setIfInBounds d<|.bool bo}:=by
  have hC':bu {F with n:=R.n0,ds:=[],rd:=some R.l} (·<1000000*E.nx+1000*(i+1)) (St.kn ⟨[],Mo,nx',[]⟩) g2 W2 a':=by
   refine hC.restrict (λkey y G U r=>?_) (λU y G=>?_)<|λU r=>?_
   .cases key with
    |s b9=>simp[St.kn,w]at G
    |m EP=>
     simp only[St.kn,cd]at G
     let ⟨b,Z,bZ⟩:=G
     subst bZ
     have:=(yl EP b Z).2 U r
     omega
   .simp only[St.kn,cd]at G;let ⟨b,Z,bZ⟩:=G;have:=(yl U b Z).1;omega
   .have:U<F.k0:=r;omega
  have rH:=bu.frame (sl':=(d,.c<|.B bo)::slk) (M':=Mo) (nx':=E.nx) (gd':=gd1) (n':=F.n) (ds':=[]) (rd':=F.rd) (a':={C with tmps:=C.tmps.setIfInBounds d<|.bool bo}) hC' (by have:=K.size;simpa[eF.dr]using this) K.defers (λb9 mc hw=>by
   simp only[w]at hw;split at hw
   .rename_i bZ;cases hw;subst bZ;have ki:d<C.tmps.size:=by rw[K.size];show d<F.n;rw[hF];exact dC
    refine⟨by show _=_;simp[ki],λU r=>by cases r⟩
   .rename_i bZ;let ⟨s1,s2,s3⟩:=qT b9 mc hw;have ze:bI g1 mc (C.tmps.getD b9 undef):=K.gM b9 mc (by simp[St.kn,s1]);have Uw:(C.tmps.setIfInBounds d<|.bool bo).getD b9 undef=C.tmps.getD b9 undef:=by have:=nf (xs:=C.tmps) (a:=Value.bool bo) bZ;simp[this]
    rw[Uw];rcases s3 with s3|⟨s3,s4⟩
    .refine⟨?_,λU r=>by rw[s3]at r;cases r⟩;have h5:=ze.iw s3 apb g2.γ;exact h5
    .exact⟨s3 g1 g2 _ apc ze apd,λU r=>by have:=s4 U r;omega⟩) (λU b Z=>Z)
  exact rH
 have N:=suf.sound ((F.dr []).re W2 g2<|1000000*E.nx+1000*(i+1)) hF z
 have apf:(iC ((F.dr []).re W2 g2<|1000000*E.nx+1000*(i+1)).rd:Fence)=iC none:=T
 rw[apf]at N
 refine N _ _ g2 W2 _ (bu.re (k:=1000000*E.nx+1000*(i+1)) Ja) ?_
 intro g3 W3 a3 hh3
 let ⟨hA3,hK3,hG3⟩:=bu.un (k:=1000000*E.nx+1000*(i+1)) Ja hh3
 exact cont F hF s5 [] g3 W3 a3 (hA3.weaken<|λU r=>by have:U<1000000*E.nx+1000*f.size:=r;show U<1000000*(E.nx+1);omega) (R.ada _ F [] W2 W3 hK3 Uv)
end
end Go.El
