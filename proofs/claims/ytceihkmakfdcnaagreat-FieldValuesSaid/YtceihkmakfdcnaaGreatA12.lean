/- Plain: scaling of polynomials over the rationals. Own work; no condition. -/
import Derived.Test.YtceihkmakfdcnaaGreatA11
import Derived.Test.YtceihkmakfdcnaaGreatA8
import Derived.Test.YtceihkmakfdcnaaGreatA9
import Derived.Test.YtceihkmakfdcnaaGreatA7
set_option linter.all false
set_option maxHeartbeats 16000000
set_option maxRecDepth 100000
open Bool renaming true->af
open Go.El renaming cS->I,rr->N,asM->R,Pb->U,re->s,cI->j,rb->w,Cy->y
open Go.IntKind renaming wrap->ax
open Go.Proofs.Tryz renaming prog->z
open Int renaming natAbs->aC,toNat->ae,natAbs_mul_self'->aou
open List renaming getD->E,length->Z,range->cc,take->h,getLast_eq_getElem->aoK
open List.Pairwise renaming nil->EA
open Nat renaming div_le_div_left->aoQ
open Rat renaming divInt->iU
open _root_ renaming Rat->D,Nat->Y,List->V,Int->O
namespace Go.El
open Go Go.Proofs Go.RowKit
namespace Rx
def NL(t:D)(m:Y):∀n:Y,t^(m+n)=t^m*t^n
 |0=>by rw[jd,xe,tq]
 |n+1=>by rw[<-qk,xf,NL t m n,xf,oD]
def TH(a t:D):∀n:Y,(a*t)^n=a^n*t^n
 |0=>by rw[xe,xe,xe,tq]
 |n+1=>by rw[xf,xf,xf,TH a t n];grind
def TJ:∀n:Y,(1:D)^n=1
 |0=>xe _
 |n+1=>by rw[xf,TJ n,tq]
def EC{t:D}(c:t≠0):∀n:Y,t^n≠0
 |0=>by rw[xe];decide
 |n+1=>λa=>by
  rw[xf]at a;rcases AN.1 a with a|a
  .exact EC c n a
  .exact c a
def fI(t:D)(A:Rx):Rx:=⟨λi=>t^i*A i,by let ⟨n,a⟩:=A.2;exact⟨n,λi c=>by show t^i*A.v i=0;rw[a i c,fN]⟩⟩
def nY t A i:fI t A i=t^i*A i:=rfl
def NM t A B:fI t (A*B)=fI t A*fI t B:=ext λn=>by
 rw[nY,eW,eW,<-LW];refine th λi a=>?_
 rw[nY,nY];have:t^n=t^i*t^(n-i):=by rw[<-NL,(G:i+(n-i)=n)]
 rw[this];grind
def an4 t A B:fI t (A+B)=fI t A+fI t B:=ext λn=>by rw[nY,eI,eI,nY,nY,Rat.mul_add]
def an5 t c:fI t (K c)=K c:=ext λn=>by
 rw[nY,nk];split
 .rename_i h;rw[h,xe,qP]
 .rw[fN]
def acF t:fI t 1=1:=an5 t 1
def acG a t A:fI a (fI t A)=fI (a*t) A:=ext λn=>by rw[nY,nY,nY,TH,oD]
def acH A:fI 1 A=A:=ext λn=>by rw[nY,TJ,qP]
def an6 t A:bt (fI t A)=K t*fI t (bt A):=ext λn=>by rw[pM,nY,fV,nY,pM,xf];grind
def NN{t}(c:t≠0) A:sz (fI t A)=sz A:=by
 have a:∀(s:D)(B:Rx),sz (fI s B)<=sz B:=λs B=>tn λi d=>by rw[nY,lU d,fN]
 have g:=a t A;have f:=a t⁻¹ (fI t A);rw[acG,nT t c,acH]at f;omega
def br.fI{t}(a:t≠0){A}(c:br A):br (fI t A):=by
 refine⟨by rw[NN a];exact c.1,λX Y e=>?_⟩;have d:A=Rx.fI t⁻¹ X*Rx.fI t⁻¹ Y:=by rw[<-NM,<-e,acG,nT t a,acH]
 have:=c.2 _ _ d;rwa[NN (qT a),NN<|qT a]at this
def Co.fI{t}{A B}(a:Co A B):Co (fI t A) (Rx.fI t B):=by let ⟨U,V,e⟩:=a;refine⟨Rx.fI t U,Rx.fI t V,?_⟩;rw[<-NM,<-NM,<-an4,e,acF]
noncomputable def mS(t:D)(A:Rx):Rx:=K (t^(sz A-1))*fI t⁻¹ A
def acI{t}(a:t≠0) A:sz (mS t A)=sz A:=by
 by_cases h:A=0
 .subst h;have e:fI t⁻¹ 0=(0:Rx):=ext λi=>by rw[nY,lP,fN]
  rw[mS,e,mul_zero]
 .have c:=NN (qT a) A;have d:fI t⁻¹ A≠0:=λe=>by rw[e,ko]at c;have:=eL h;omega
  have f:=dG (uD<|EC a<|sz A-1) d;rw[uG (EC a _),c]at f;show sz (K _*_)=_;omega
def IB{t:D}(a:t≠0)(n:Y):t^n*t⁻¹ ^n=1:=by rw[<-TH,Rat.mul_inv_cancel t a,TJ]
def IC{t}A i:mS t A i=t^(sz A-1)*(t⁻¹ ^i*A i):=by rw[mS,fV,nY]
def an7{t}(a:t≠0){A}(c:Mo A):Mo (mS t A):=by rw[Mo,acI a,IC,<-oD,IB a,qP];exact c
def an8 t:mS t 1=1:=by rw[mS,qR,acF,mul_one];show K (t^0)=1;rw[xe,nS]
def an9{t}{A B}(a:A≠0)(c:B≠0):mS t (A*B)=mS t A*mS t B:=by have h:=dG a c;have d:=eL a;have f:=eL c;rw[mS,mS,mS,NM,(G:sz (A*B)-1=(sz A-1)+(sz B-1)),NL,eX];ac_rfl
def an'{t}(a:t≠0) A:mS t⁻¹ (mS t A)=A:=ext λi=>by rw[IC,IC,acI a,Rat.inv_inv];have c:=IB a<|sz A-1;have d:=IB a i;grind
def aoa{t}(a:t≠0){A}(c:br A):br (mS t A):=br.smul (c.fI<|qT a)<|EC a _
def aob{t}(a:t≠0){A}(c:Co A (bt A)):Co (mS t A) (bt<|mS t A):=by have d:=EC a<|sz A-1;have f:=qT a;let ⟨U,V,e⟩:=c.fI (t:=t⁻¹);refine⟨K (t^(sz A-1))⁻¹ *U,K (t^(sz A-1))⁻¹ *(K (t⁻¹)⁻¹ *V),?_⟩;rw[mS,Hp,an6,<-e];have g:=pI d;have i:=pI f;have k:K (t^(sz A-1))⁻¹ *U*(K (t^(sz A-1))*fI t⁻¹ A)=(K (t^(sz A-1))⁻¹ *K (t^(sz A-1)))*(U*fI t⁻¹ A):=fc;have l:K (t^(sz A-1))⁻¹ *(K (t⁻¹)⁻¹ *V)*(K (t^(sz A-1))*(K t⁻¹ *fI t⁻¹ (bt A)))=(K (t^(sz A-1))⁻¹ *K (t^(sz A-1)))*((K (t⁻¹)⁻¹ *K t⁻¹)*(V*fI t⁻¹ (bt A))):=fc;rw[k,l,g,i,one_mul,one_mul,one_mul]
end Rx
open Rx
def g8(a:V D):Y->Y
 |0=>1
 |i+1=>g8 a i*((E a i 0).den/Nat.gcd (g8 a i) (E a i 0).den)
def dA(a:V D):Y:=g8 a<|Z a
def dB(a:V D):V O:=(cc<|Z a).map λk=>(E a k 0).num*((dA a:Y):O)^(Z a-1-k)/((E a k 0).den:O)
def jP(c:Y)(g:V O):V D:=(cc<|Z g).map λk=>iU (E g k 0)<|(c:O)^(Z g-1-k)
noncomputable def ny:V (V D)->Rx
 |[]=>1
 |u::l=>lx u*ny l
def TL a i:g8 a (i+1)=Nat.lcm (g8 a i) (E a i 0).den:=by rw[g8,Nat.lcm,Nat.mul_div_assoc _<|QX _ _]
def ED(a:V D):∀i,∀c,c<i->(E a c 0).den∣g8 a i
 |0,_,d=>by omega
 |i+1,c,d=>by
  rw[TL];by_cases f:c=i
  .subst f;exact Nat.dvd_lcm_right _ _
  .exact DX (ED a i c G)<|Nat.dvd_lcm_left _ _
def TM(a:V D){c:Y}(d:∀f,(E a f 0).den∣c):∀i,g8 a i∣c
 |0=>Nat.one_dvd _
 |i+1=>by rw[TL];exact Nat.lcm_dvd (TM a d i)<|d i
def EE(a:V D):∀i,0<g8 a i
 |0=>Nat.zero_lt_one
 |i+1=>by rw[TL];exact Nat.lcm_pos (EE a i) (E a i 0).den_pos
def y6 a:Z (dB a)=Z a:=by simp[dB]
def NO a{k}(c:k<Z a):E (dB a) k 0=(E a k 0).num*((dA a:Y):O)^(Z a-1-k)/((E a k 0).den:O):=by unfold dB;rw[aV,iT,kS c];rfl
def NP r{D}(a:(r.den:O)∣D):((r.num*D/(r.den:O):O):Rat)=(D:Rat)*r:=by
 obtain⟨e,rfl⟩:=a;have c:(r.den:O)≠0:=by have:=r.den_pos;omega
 have d:r.num*((r.den:O)*e)/(r.den:O)=r.num*e:=by rw[(fc:r.num*((r.den:O)*e)=(r.num*e)*(r.den:O)),Int.mul_ediv_cancel _ c]
 rw[d,fh,fh,<-Mq r];have:(((r.den:Y):O):Rat)=((r.den:Y):Rat):=rfl;rw[this];grind
structure iG(a:V D):Prop where
 one:a.getD (a.length-1) 0=1
 l2:2<=a.length
 l9:a.length<=9
 co:Co (lx a) (bt<|lx a)
 aB:∀i,aJ 6 ((dB a).getD i 0)
section
variable{a:V D}
def ID a:((dA a:Y):D)≠0:=wO<|R4.1<|EE a _
def iG.can(c:iG a):bS a:= .inr (by rw[c.one];decide)
def iG.sz(c:iG a):Rx.sz (lx a)=Z a:=gQ c.can
def TN(c:Y):∀n:Y,(((c:O)^n:O):D)=((c:Y):D)^n
 |0=>by rw[ow,xe];rfl
 |n+1=>by rw[eZ,fh,TN c n,xf];rfl
def acJ{t:D}(c:t≠0){m k:Y}(d:k<=m):t^m*t⁻¹ ^k=t^(m-k):=by
 have e:t^m=t^(m-k)*t^k:=by rw[<-NL,(G:m-k+k=m)]
 rw[e,oD,IB c,tq]
def iG.zx(c:iG a):Rx.zx (dB a)=mS ((dA a:Y):D) (lx a):=Rx.ext λi=>by
 rw[kq,IC,c.sz,gx];by_cases d:i<Z a
 .rw[NO a d,NP,TN,<-oD,acJ (ID a) G];by_cases e:i=Z a-1
  .rw[e,c.one];exact Int.one_dvd _
  .have f:(E a i 0).den∣dA a:=ED a _ i d;have g:((E a i 0).den:O)∣((dA a:Y):O):=wB.2 f;obtain⟨j,k⟩:∃j,Z a-1-i=j+1:=⟨Z a-1-i-1,G⟩;rw[k,eZ];exact Ha g<|A8 _ _
 .rw[eK _ (by rw[y6];omega),iE a G,fN,fN];rfl
def iG.aL(c:iG a):aL (dB a):=by have d:=c.l2;refine⟨λe=>by have:=y6 a;rw[e]at this;simp at this;omega,?_⟩;rw[y6,NO a G,c.one,mr,ow];rfl
def iG.acK(c:iG a){l}(g:l.Nodup)(k:∀p∈l,bq p)(m:wU<pP l):∃p∈l,Fx.Co (Fx.fx (dB a):Fx (p:Y)) (Fx.bt<|Fx.fx<|dB a):=by
 have t:=c.l2;have u:=c.l9;obtain⟨n,d⟩:∃n,Z a=n+2:=⟨Z a-2,G⟩;have f:Co (Rx.zx<|dB a) (bt<|Rx.zx<|dB a):=by rw[c.zx];exact aob (ID a) c.co
 refine alA g k m (n:=n) (by rw[y6];exact d) c.aL f (B:=2^192) T (λi=>?_) ?_
 .have:=c.aB i;unfold aJ at this;omega
 .have r:2*((2*n+2)*((n+1)*2^192))<=2^200:=by have v:(2*n+2)*(n+1)<=16*8:=ls G G;rw[<-yd (2*n+2)];omega
  refine cj (AY r _) ?_;refine cj (fT T (G:2*n+1<=15)) ?_;decide+kernel
def iG.mf(c:iG a):IA (dB a):=⟨c.aL,by rw[y6];exact c.l2,by rw[y6];exact c.l9,c.aB,c.acK ali (λ_ d=>anY d) alk⟩
def NQ c g:Z (jP c g)=Z g:=by simp[jP]
def TP c g{k}(d:k<Z g):E (jP c g) k 0=iU (E g k 0) ((c:O)^(Z g-1-k)):=by unfold jP;rw[aV,iT,kS d];rfl
def aoc d{c:Y}(i:0<c) n:iU d ((c:O)^n)=((c:Y):D)⁻¹ ^n*(d:D):=by
 have f:((c:Y):D)≠0:=wO G;rw[L',TN,ym];have k:=IB f n;have g:(((c:Y):D)^n)⁻¹ =((c:Y):D)⁻¹ ^n:=by have l:=nT _<|EC f n;grind
 rw[g,DM]
def acL{c:Y}(d:0<c){g:V O}(f:Go.El.aL g):lx (jP c g)=mS ((c:Y):D)⁻¹ (Rx.zx g):=Rx.ext λi=>by
 have k:((c:Y):D)≠0:=wO G;rw[IC,kr<|aL.can f,kq,gx];by_cases l:i<Z g
 .rw[TP c g l,aoc _ d,<-oD,acJ (qT k) G]
 .rw[iE _ (by rw[NQ];omega),eK g G];show(0:D)=_*(_*((0:O):D));rw[show((0:O):D)=0 from J,fN,fN]
def acM{c}{g}(d:Go.El.aL g):E (jP c g) (Z (jP c g)-1) 0=1:=by have:=cQ.2 d.1;rw[NQ,TP c g G,d.2,mr,ow];rfl
def acN{c:Y}(k:0<c):∀{d:V (V O)},(∀g∈d,Go.El.aL g)->ny (d.map<|jP c)=mS ((c:Y):D)⁻¹ (oF d)
 |[],_=>(an8 _).symm
 |g::d,f=>by
  have l:oF d≠0:=by
   have i:∀{d:V (V O)},(∀g∈d,Go.El.aL g)->oF d≠0:=by
    intro d;induction d with
    |nil=>intro _;exact pK
    |cons g d m=>intro f;exact pE (ns<|f g ay).ne<|m λx hx=>f x lF
   exact i λx hx=>f x lF
  rw[hJ,ny,oF,an9 (ns<|f g ay).ne l,acL k<|f g ay,acN k λx hx=>f x lF]
def iG.unG(l:iG a){c}(i:∀r∈c,Go.El.aL r/\Rx.br (Rx.zx r))(m:Rx.oF c=Rx.zx (dB a)):(∀u∈c.map (jP<|dA a),E u (Z u-1) 0=1/\bS u/\Mo (lx u)/\br (lx u))/\ny (c.map<|jP<|dA a)=lx a:=by
 have k:0<dA a:=EE a _;refine⟨λu n=>?_,?_⟩
 .obtain⟨g,f,rfl⟩:=jW.1 n;let ⟨d,g2⟩:=i g f;rw[acL k d];exact⟨acM d,.inr (by rw[acM d];decide),an7 (qT<|ID a)<|ns d,aoa (qT<|ID a) g2⟩
 .rw[acN k λg f=>(i g f).1,m,l.zx,an' (ID a)]
end
end Go.El
namespace Go.El
open Go Go.Proofs Go.RowKit Fx
def acO{x a}:dy x a<=0↔x<=a:=by
 unfold dy;split
 .omega
 .split<;>omega
end Go.El
namespace Go.El
open Go Go.Proofs Go.RowKit
def TQ(a:V D)(c:∀i,QS 20 (E a i 0)):∀i,aJ (20*i+1) ((g8 a i:Y):O)
 |0=>aJ.one (a:=1) T
 |i+1=>by have f:=TQ a c i;have g:=(c i).d;have l:g8 a (i+1)<=g8 a i*(E a i 0).den:=jh _<|Nat.div_le_self _ _;have k:=f.mul g;rw[<-eU]at k;unfold aJ at*;rw[oA]at*;rw[(G:20*(i+1)+1=20*i+1+20)];omega
def oM{a:Type}(f:Y->a)(d:a)(n c:Y):V a:=(cc n).map λk=>if n<=k+c then f k else d
def aoe{a:Type}(f:Y->a) d n c:Z (oM f d n c)=n:=by simp[oM]
def aof{a:Type}(f:Y->a) d n:List.replicate n d=oM f d n 0:=by
 refine sL (by simp[oM]) λi g c=>?_
 simp[oM]at c⊢;omega
def acP{g:Type}(f:Y->g) d{n a}(l:a<n):(oM f d n a).set (n-1-a) (f<|n-1-a)=oM f d n (a+1):=by
 refine sL (by simp[oM]) λi m k=>?_
 rw[List.getElem_set];simp only[oM,z2,J3];simp only[oM,cR,wG]at k;by_cases e:n-1-a=i
 .subst e;rw[aq J,aq G]
 .rw[b e];by_cases c:n<=i+a
  .rw[aq c,aq G]
  .rw[b c,b G]
def aog{a:Type}(f:Y->a) d n:oM f d n n=(cc n).map f:=by
 refine sL (by simp[oM]) λi c g=>?_
 simp[oM]
def acQ{g:V O}:∀{l:V (V O)},g∈l->Rx.zx g∣Rx.oF l
 |f::l,a=>by
  rw[Rx.oF];rcases bY.1 a with rfl|a
  .exact Rx.dvd_mul_right _ _
  .exact Rx.dV (acQ a) _
def acR:∀{l:V (V O)},(∀g∈l,Rx.br (Rx.zx g))->Rx.oF l≠0/\Z l+1<=Rx.sz (Rx.oF l)
 |[],_=>⟨Rx.pK,by rw[Rx.oF,Rx.qR];exact a7 _⟩
 |g::l,c=>by
  let ⟨i1,i2⟩:=acR (l:=l) λx hx=>c x lF
  have a:=c g ay;have:=Rx.dG a.ne i1;have:=a.1;rw[Rx.oF];exact⟨Rx.pE a.ne i1,HA⟩
def pX(a c:V D):Y->O
 |0=>0
 |i+1=>if ni (E a i 0) (E c i 0)≠0 then ni (E a i 0) (E c i 0)else pX a c i
def iH(a c:V D):O:=if Z a≠Z c then oL (Z a) (Z c)else pX a c (Z a)
abbrev xg:V D×O:=([],0)
def EF(x a:V D×O):O:=iH x.1 a.1
structure EG(w:Y)(x:V D×O):Prop where
 l:x.1.length<=1000
 q:∀i,QS w (x.1.getD i 0)
open Rx
def CD(c M:Y)(A:Rx):Prop:=0<c/\∀i,∃z:O,aC z<=M/\((c:Y):D)*A i=(z:D)
def CD.int{c M}{A}(a:CD c M A):dj (K ((c:Y):D)*A):=dj.of λi=>by let ⟨z,_,h2⟩:=a.2 i;exact⟨z,by rw[fV,h2]⟩
def CD.le{c M a}{A}(d:CD c M A)(k:M<=a):CD c a A:=⟨d.1,λi=>by let ⟨z,f,h2⟩:=d.2 i;exact⟨z,cj f k,h2⟩⟩
def CD.low{c d M}{A}(f:CD c M A)(l:d∣c)(m:dj (K ((d:Y):D)*A)):CD d M A:=by
 obtain⟨j,rfl⟩:=l;have r:=f.1;have n:0<d:=qF λe=>by subst e;omega
 have j0:0<j:=qF λe=>by subst e;omega
 refine⟨n,λi=>?_⟩;let ⟨z,g,h2⟩:=f.2 i;have a:=m.at i;rw[fV]at a;refine⟨_,?_,a⟩;generalize nu (K ((d:Y):D)*A) i=y at*;have k:((j:O):D)*(y:D)=(z:D):=by rw[<-h2,<-a,yD,qV];grind
 rw[<-fh]at k;have p:(j:O)*y=z:=wT.1 k;rw[<-p,pD]at g;have:1*aC y<=j*aC y:=dT _ j0;have e:aC ((j:O))=j:=rfl;rw[e]at g;omega
def aoh{A}{M}(c:∀i,aC (A i)<=M):∀n,Rx.na n A<=(((n+1)*M:Y):O):=by
 intro n;have a:∀k,sm (λi=>(aC (A i):O)) k<=((k*M:Y):O):=by
  intro k;induction k with
  |zero=>simp[sm]
  |succ k d=>
   rw[sm]
   have:=c k
   rw[fD,hO]
   omega
 exact a<|n+1
def CD.div{c M}{A a}(hA:Mo A)(u:Mo a)(hd:a∣A)(S:CD c M A):∃d,Dn a d/\d∣c/\CD d (2^(sz A-1)*(sz A*M)) a:=by
 obtain⟨E,rfl⟩:=hd;have v:Mo E:=hA.yu u;let ⟨d,f⟩:=HT a;let ⟨e,g⟩:=HT E;let ⟨n,x⟩:=HT<|E*a;have W:=ZN v u g f x;have p:=x.dvd c S.int;have C:d∣c:=DX ⟨e,by rw[W,gN]⟩ p;have F:=S.low p x.int;have N:=dG v.ne u.ne;have R:=eL v.ne;have s2:=eL u.ne;refine⟨d,f,C,f.pos,λi=>⟨nu (K ((d:Y):D)*a) i,?_,by rw[<-fV];exact f.int.at i⟩⟩;have X:∀{m:Y}{B:Rx},0<m->sz (K ((m:Y):D)*B)<=sz B:=λ_=>tn λi o=>by rw[fV,lU o,fN]
 have q:nu (K ((e:Y):D)*E) (sz E-1)≠0:=λs=>by have r:=g.int.at<|sz E-1;rw[fV,s]at r;have H:E (sz E-1)=1:=v;rw[H,tq]at r;exact wO (R4.1 g.pos) r
 have L:=ZQ (A:=nu<|K ((d:Y):D)*a) (B:=nu<|K ((e:Y):D)*E) (k:=sz a-1) (l:=sz E-1) (λj w=>yC<|by have:=X (B:=a) f.pos;omega) (λj w=>yC<|by have:=X (B:=E) g.pos;omega) q i;have y:nu (K ((d:Y):D)*a)*nu (K ((e:Y):D)*E)=nu (K ((n:Y):D)*(E*a)):=by rw[<-HS f.int g.int];congr 1;rw[W,yD,eX];ac_rfl
 rw[y]at L;have I:∀i,aC (nu (K ((n:Y):D)*(E*a)) i)<=M:=λi=>by let ⟨z,r,H⟩:=F.2 i;have b:=x.int.at i;rw[fV,H]at b;rw[<-wT.1 b];exact r
 have t:=aoh I<|sz a-1+(sz E-1);rw[(G:sz a-1+(sz E-1)=sz (E*a)-1)]at L t;have P:(0:O)<=2^(sz (E*a)-1):=Int.le_of_lt<|mW T;have Q:=r7 L<|jR t P;rw[(G:sz (E*a)-1+1=sz (E*a))]at Q;have J:(2:O)^(sz (E*a)-1)*((sz (E*a)*M:Y):O)=((2^(sz (E*a)-1)*(sz (E*a)*M):Y):O):=by rw[eU (2^(sz (E*a)-1)),s7];rfl
 rw[J]at Q;exact Mr.1 Q
def CD.ht{c M a}{A}(h:CD c M A)(d:c<=a)(f:M<=a):Ht a A:=⟨(c:O),AD,d,λi=>by let ⟨z,g,h2⟩:=h.2 i;exact⟨z,cj g f,h2⟩⟩
def acS{a}{d M}(c:CD d M (lx a)):dA a∣d:=TM a (λj=>by
 let ⟨z,_,h2⟩:=c.2 j;rw[gx]at h2;have f:=Mq<|E a j 0;generalize E a j 0=r at*;have g:((d:O)*r.num:O)=z*(r.den:O):=by refine wT.1 ?_;rw[fh,fh,<-f,<-h2,qV,qV];grind
 have i:(r.den:O)∣r.num*(d:O):=⟨z,by rw[ef,g,ef]⟩;have k:r.den∣aC r.num*d:=by have:=GU.2 i;rwa[pD]at this
 exact(r.reduced.symm.dvd_of_dvd_mul_left k)) _
def aoi a:dj (K ((dA a:Y):D)*lx a):=dj.of λi=>by
 by_cases d:i<Z a
 .refine⟨(E a i 0).num*((dA a:Y):O)/((E a i 0).den:O),?_⟩;have c:(E a i 0).den∣dA a:=ED a _ i d;rw[NP _ (wB.2 c),fV,gx];rfl
 .exact⟨0,by rw[fV,gx,iE a G,fN];rfl⟩
def aoj{a}{d M c t}(g:CD d M (lx a))(f:E a (Z a-1) 0=1)(n:d<=2^c)(p:M<=2^t)(H:(Z a-2)*c+t<=191) i:aJ 6 (E (dB a) i 0):=by
 have r:(4294967296:Y)^6=2^192:=T;unfold aJ;rw[r];by_cases k:i<Z a
 .by_cases u:i=Z a-1
  .subst u;rw[NO a k,f,mr,ow];exact Nat.one_lt_two_pow T
  .have v:=g.low (acS g)<|aoi a;let ⟨z,x,h2⟩:=v.2 i;rw[gx]at h2;have A:dA a<=2^c:=cj (uw g.1<|acS g) n;obtain⟨j,B⟩:∃j,Z a-1-i=j+1:=⟨Z a-1-i-1,G⟩;have C:(E a i 0).num*((dA a:Y):O)^(j+1)/((E a i 0).den:O)=((dA a:Y):O)^j*z:=by
    refine wT.1 ?_;have l:((E a i 0).den:O)∣((dA a:Y):O)^(j+1):=by rw[eZ];exact Ha (wB.2<|ED a _ i k)<|A8 _ _
    rw[NP _ l,fh,<-h2,eZ,fh,qV];grind
   rw[NO a k,B,C,pD,Int.natAbs_pow,oA];have F:dA a^j<=2^(c*j):=by rw[GX];exact AY A j
   have K:c*j<=(Z a-2)*c:=by rw[gN];exact dT _ G
   have m:dA a^j*aC z<=2^(c*j)*2^t:=ls F<|cj x p;rw[<-mE]at m;exact uv m<|RM T G
 .rw[eK _ (by rw[y6];omega)];exact kh T
noncomputable def gC:V (V D×O)->Rx
 |[]=>1
 |x::l=>pk (lx x.1) (ae x.2)*gC l
noncomputable def oN:V (Rx×O)->Rx
 |[]=>1
 |x::l=>pk x.1 (ae x.2)*oN l
def acT:∀l m,gC (l++m)=gC l*gC m
 |[],m=>by rw[sF,gC,one_mul]
 |x::l,m=>by rw[mc,gC,gC,acT l m,mul_assoc]
def acU:∀l m,oN (l++m)=oN l*oN m
 |[],m=>by rw[sF,oN,one_mul]
 |x::l,m=>by rw[mc,oN,oN,acU l m,mul_assoc]
def acV:∀l:V (V D×O),gC l=oN (l.map λp=>(lx p.1,p.2))
 |[]=>rfl
 |x::l=>by rw[hJ,gC,oN,acV l]
def aok{l m}(a:l.Perm m):gC l=gC m:=by
 induction a with
 |nil=>rfl
 |cons x _ c=>rw[gC,gC,c]
 |swap x y l=>rw[gC,gC,gC,gC];ac_rfl
 |trans _ _ i1 i2=>exact i1.trans i2
structure acW(a:V D)(fs:V (V D×O)):Prop where
 ok:∀x∈fs,x.1.getD (x.1.length-1) 0=1/\br (lx x.1)/\1<=x.2
 prod:gC fs=lx (dZ a)
 AQ:fs.Pairwise (λx c=>x.1≠c.1)
 adj:gAd xg EF fs (fs.length-1)
def acX(c:Y->Y)(a:Y):∀L,pk (pF c L) a=pF (λm=>c m*a) L
 |[]=>AM a
 |x::L=>by rw[pF,pF,tk,acX c a L,tj]
def TS{L}(a:FL L)(c:Y->Y):Mo (pF c L):=uI a.mo
def acY{L:V (Rx×Y)}(a:FL L):∀(k n:Y),oN (np L k n)=pF (λm=>if n<=m/\m<n+k then m else 0) L
 |0,n=>by rw[np,oN];exact(L3 λx _=>b G).symm
 |k+1,n=>by
  have f:oN (if 1<sz (pF (kP n) L)then[(pF (kP n) L,(n:O))]else[])=pk (pF (kP n) L) n:=by
   split
   .rw[oN,oN,mul_one,bW]
   .rename_i g;have c:=TS a<|kP n;have:=eL c.ne;rw[c.unit G,AM,oN]
  rw[np,acU,f,acY a k<|n+1,acX,<-AR];refine wN λx _=>?_
  unfold kP;by_cases e:x.2=n
  .rw[aq e,b G,aq G];omega
  .rw[b e];by_cases d:n+1<=x.2/\x.2<n+1+k
   .rw[aq d,aq G];omega
   .rw[b d,b G];omega
def TU{L:V (Rx×Y)}:∀{k n:Y}{c:Rx×O},c∈np L k n->∃m:Y,n<=m/\c=(pF (kP m) L,(m:O))/\1<sz (pF (kP m) L)
 |0,_,_,a=>by cases a
 |k+1,n,c,a=>by
  rw[np]at a;rcases bg.1 a with a|a
  .split at a
   .rename_i d;exact⟨n,a7 _,gI.1 a,d⟩
   .cases a
  .let ⟨m,d,h2,f⟩:=TU a;exact⟨m,G,h2,f⟩
def acZ{L:V (Rx×Y)}:∀(k n:Y),(np L k n).Pairwise (λx c=>x.2≠c.2)
 |0,_=>EA
 |k+1,n=>by
  rw[np];refine wZ.2 ⟨?_,acZ k<|n+1,λx a c d=>?_⟩
  .split
   .exact R8 _ _
   .exact EA
  .let ⟨m,f,h2,_⟩:=TU d;split at a
   .rw[gI.1 a,h2];show(n:O)≠(m:O);omega
   .cases a
def aol{L}(a:FL L) m:Co (pF (kP m) L) (bt<|pF (kP m) L):=by
 refine DQ (TS a _).ne λQ c d f=>?_
 let ⟨x,hx,i,h2⟩:=yv c d;have g:kP m x.2=1:=by have:=Hx m x.2;omega
 exact a.Hu (Hx m) hx g<|dvd_trans (c.assoc (a.fW x hx) h2) f
def aom{A}(a:Co A (bt A)){Q}(i:2<=sz Q):¬Q*Q∣A:=λ⟨w,e⟩=>by
 have c:Q∣A:=⟨w*Q,by rw[e];ac_rfl⟩;have d:Q∣bt A:=by rw[e,uH,uH];refine dvd_add ⟨bt w*Q,fc⟩ ?_;rw[mul_add];exact dvd_add ⟨w*bt Q,fc⟩ ⟨w*bt Q,fc⟩
 let ⟨U,V,f⟩:=a;have g:Q∣1:=by rw[<-f];exact dvd_add (dV c _)<|dV d _
 have:=dvd_one g;omega
def NR{u:V D}:∀{l:V (V D)},u∈l->lx u∣ny l
 |v::l,a=>by
  rw[ny];rcases bY.1 a with rfl|a
  .exact dvd_mul_right _ _
  .exact dV (NR a) _
def ac0:∀{l:V (V D)},(∀u∈l,br (lx u))->(∀Q:Rx,2<=sz Q->¬Q*Q∣ny l)->l.Pairwise (·≠·)
 |[],_,_=>EA
 |v::l,c,d=>by refine ju.2 ⟨λu a f=>?_,ac0 (λu a=>c u<|by simp[a]) λQ g i=>d Q g<|dV i _⟩;subst f;exact d (lx v) (c v ay).1<|wM (dvd_refl _)<|NR a
def ac1(m:O):∀l:V (V D),gC (l.map λu=>(u,m))=pk (ny l) (ae m)
 |[]=>(AM _).symm
 |u::l=>by rw[hJ,gC,ny,tk,ac1 m l]
def fo(ir:V D->V (V D))(a:V (V D×O)):V (V D×O):=a.flatMap λp=>(ir p.1).map λu=>(u,p.2)
def ac2{ir:V D->V (V D)}:∀{a:V (V D×O)},(∀p∈a,ny (ir p.1)=lx p.1)->gC (fo ir a)=gC a
 |[],_=>rfl
 |p::a,c=>by rw[fo,kH,acT,ac1,c p ay,gC];exact a8 _ (ac2 λd f=>c d<|by simp[f])
def ac3:∀{l:V (V D×O)},(∀x∈l,br (lx x.1)/\1<=x.2)->gC l≠0/\Z l+1<=sz (gC l)
 |[],_=>⟨pK,by rw[gC,qR];exact a7 _⟩
 |x::l,a=>by
  let ⟨i1,i2⟩:=ac3 (l:=l) λy hy=>a y nV
  let ⟨d,h2⟩:=a x ay;have f:=RO d.1<|ae x.2;have c:pk (lx x.1) (ae x.2)≠0:=λe=>by rw[e,ko]at f;omega
  have:=dG c i1;rw[gC];exact⟨pE c i1,HA⟩
def ac4{x:V D×O}:∀{l:V (V D×O)},x∈l->1<=x.2->lx x.1∣gC l
 |f::l,a,c=>by
  rw[gC];rcases bY.1 a with rfl|a
  .obtain⟨n,d⟩:∃n,ae x.2=n+1:=⟨ae x.2-1,G⟩;rw[d];exact lv (dvd_mul_left _ _) _
  .exact dV (ac4 a c) _
def TV a d:ni a d= -ni d a:=by
 unfold ni;by_cases c:a<d
 .rw[aq c,b<|Rat.not_lt.2<|Rat.le_of_lt c,aq c]
 .rw[b c];by_cases h2:d<a
  .rw[aq h2,aq h2];rfl
  .rw[b h2,b h2,b c];rfl
def ac5(a c:V D):∀i,pX a c i= -pX c a i
 |0=>rfl
 |i+1=>by
  rw[pX,pX,TV (E c i 0)<|E a i 0,ac5 a c i];generalize ni (E a i 0) (E c i 0)=g;by_cases f:g=0
  .rw[b (λd=>d f),b<|λd=>d G]
  .rw[aq f,aq G];omega
def aon a c:iH a c= -iH c a:=by
 unfold iH;by_cases h:Z a=Z c
 .rw[b (λe=>e h),b<|λe=>e h.symm,ac5,h]
 .rw[aq h,aq<|λe=>h e.symm,an3]
def ac6 x a:EF x a= -EF a x:=aon _ _
structure nz(a:V D):Prop where
 can:bS a
 ne:a≠[]
 l9:a.length<=9
 hA:Ht (2^1500) (lx a)
 sz:∃c e h:Y,CD c (2^h) (lx<|dZ a)/\c<=2^e/\e<=600/\(a.length-2)*e+(h+12)<=191
section
variable{a:V D}
def nz.mo(c:nz a):Mo (lx<|dZ a):=Zc c.can c.ne
def nz.IE(c:nz a):Rx.sz (lx<|dZ a)=Z a:=by rw[gQ (tr a),RI c.can]
def nz.div(g:nz a){i}(m:Mo i)(n:i∣lx (dZ a)):∃d f t,CD d (2^t) i/\d<=2^f/\f<=600/\(Z a-2)*f+t<=191:=by let ⟨c,f,k,l,h2,p,r⟩:=g.sz;let ⟨d,_,d2,d3⟩:=l.div g.mo m n;refine⟨d,f,k+12,d3.le ?_,cj (uw l.1 d2) h2,p,r⟩;rw[g.IE];have u:=g.l9;have v:2^(Z a-1)<=2^8:=fT T G;have x:Z a*2^k<=9*2^k:=dT _ u;have A:=ls v x;rw[mE];omega
def nz.ht(f:nz a){c}(g:Mo c)(i:c∣lx (dZ a)):Ht (2^600) c:=by let ⟨d,e,t,k,h2,l,m⟩:=f.div g i;exact k.ht (cj h2<|Mb 600 l)<|Mb 600 G
def nz.qs(d:nz a){c}(f:Mo c)(g:c∣lx (dZ a)) i:QS 20 (c i):=(d.ht f g).qs (nn (t:=600) G) i
def ac7{c}(d:bS c)(f:Mo (lx c)):E c (Z c-1) 0=1:=by have:=f;rw[Mo,gQ d]at this;exact this
def aoo{c}(d:E c (Z c-1) 0=1):bS c/\Mo (lx c):=by have f:bS c:= .inr (by rw[d];decide);exact⟨f,by rw[Mo,gQ f];exact d⟩
def nz.irH(f:nz a){c}(k:bS c)(g:Mo (lx c))(l:lx c∣lx (dZ a))(m:2<=Z c)(n:Co (lx c) (bt<|lx c)):iG c/\∀i,QS 20 (E c i 0):=by
 have u:Z c<=Z a:=by have:=jy l f.mo.ne;rwa[gQ k,f.IE]at this
 have v:=f.l9;let ⟨d,e,t,p,r,x,A⟩:=f.div g l;have B:(Z c-2)*e<=(Z a-2)*e:=dT _ G;exact⟨⟨ac7 k g,m,G,n,λi=>aoj p (ac7 k g) r (a7 _) G i⟩,λi=>f.qs g l i⟩
def aoq{L}{m}(c:1<=m):pF (kP m) L∣pF id L:=by
 have e:pF id L=pF (λk=>(k-kP m k)+kP m k) L:=wN λx _=>by show x.2=_;unfold kP;split<;>omega
 rw[e,AR];exact dvd_mul_left _ _
def nz.aor(F:nz a){ir:V D->V (V D)}(hI:∀A,iG A->(∀i,QS 20 (E A i 0))->(∀u∈ir A,E u (Z u-1) 0=1/\bS u/\Mo (lx u)/\br (lx u))/\ny (ir A)=lx A){L}(B:FL L)(hF:pF id L=lx (dZ a)){c}(H:c.map (λp=>(lx p.1,p.2))=np L (Z a) 1)(hq:∀p∈c,bS p.1):
  (∀p∈c,iG p.1/\(∀i,QS 20 (E p.1 i 0))/\1<=p.2)/\Z (fo ir c)<=8/\(∀x∈fo ir c,EG 20 x)/\(∀x∈fo ir c,E x.1 (Z x.1-1) 0=1/\br (lx x.1)/\1<=x.2)/\gC (fo ir c)=lx (dZ a)/\(fo ir c).Pairwise (λx k=>x.1≠k.1):=by
 have C:∀p∈c,∃m:Y,1<=m/\lx p.1=pF (kP m) L/\p.2=(m:O)/\2<=Z p.1:=λp l=>by
  have S:(lx p.1,p.2)∈np L (Z a) 1:=by rw[<-H];exact TW (f:=λp:V D×O=>(lx p.1,p.2)) l
  let ⟨m,m1,K,X⟩:=TU S;let ⟨e1,e2⟩:=Prod.mk.inj K;refine⟨m,m1,e1,e2,?_⟩;rw[<-e1,gQ<|hq p l]at X;exact X
 have d:∀p∈c,iG p.1/\(∀i,QS 20 (E p.1 i 0))/\1<=p.2:=λp l=>by
  let ⟨m,m1,K,X,m4⟩:=C p l;have hm:Mo (lx p.1):=by rw[K];exact TS B _
  let ⟨i1,i2⟩:=F.irH (hq p l) hm (by rw[K,<-hF];exact aoq m1) m4 (by rw[K];exact aol B m);exact⟨i1,i2,G⟩
 have T:∀x∈fo ir c,∃p∈c,x.1∈ir p.1/\x.2=p.2:=λx r=>by let ⟨p,l,r⟩:=iP.1 r;obtain⟨u,W,rfl⟩:=jW.1 r;exact⟨p,l,W,J⟩
 have M:∀x∈fo ir c,E x.1 (Z x.1-1) 0=1/\br (lx x.1)/\1<=x.2:=λx r=>by let ⟨p,l,S,I⟩:=T x r;let ⟨i1,_,i2,i3⟩:=(hI p.1 (d p l).1 (d p l).2.1).1 _ S;exact⟨i1,i3,by rw[I];exact(d p l).2.2⟩
 have t:gC (fo ir c)=lx (dZ a):=by
  rw[ac2 λp l=>(hI p.1 (d p l).1 (d p l).2.1).2,acV,H,acY B,<-hF];refine wN λx r=>?_
  have S:=B.pos x r;have I:=RP B r;rw[hF,F.IE]at I;exact aq G
 have b:Z (fo ir c)<=8:=by have:=(ac3 λx r=>(M x r).2).2;rw[t,F.IE]at this;have:=F.l9;omega
 have j:(fo ir c).Pairwise (λx k=>x.1≠k.1):=by
  have U:c.Pairwise (λx k=>x.2≠k.2):=by have:=acZ (L:=L) (Z a) 1;rw[<-H]at this;exact(DZ (R:=λx k:Rx×O=>x.2≠k.2)).1 this
  have go:∀{o:V (V D×O)},(∀p∈o,p∈c)->o.Pairwise (λx k=>x.2≠k.2)->(fo ir o).Pairwise (λx k=>x.1≠k.1):=by
   intro o;induction o with
   |nil=>intro _ _;exact EA
   |cons p o ih=>
    intro H l
    let ⟨p1,p2⟩:=ju.1 l
    have g:=H p ay
    refine wZ.2 ⟨?_,ih (λA hq=>H A<|by simp[hq]) p2,λx r k hy e=>?_⟩
    .let ⟨i1,i2⟩:=hI p.1 (d p g).1 (d p g).2.1;refine DZ.2<|ac0 (λu W=>(i1 u W).2.2.2) λQ hQ s=>?_;rw[i2]at s;exact aom (d p g).1.co hQ s
    .obtain⟨u,W,rfl⟩:=jW.1 r;let ⟨A,w,hy'⟩:=iP.1 hy;obtain⟨v,hv,rfl⟩:=jW.1 hy';have e:u=v:=e;subst e;have P:=H A (by simp[w]);let ⟨m,m1,K,X,_⟩:=C p g;let ⟨n,n1,n2,n3,_⟩:=C A P;let ⟨i1,i2⟩:=hI p.1 (d p g).1 (d p g).2.1;let ⟨j1,j2⟩:=hI A.1 (d A P).1 (d A P).2.1;let ⟨_,_,um,N⟩:=i1 u W;have d1:lx u∣pF (kP m) L:=by rw[<-K,<-i2];exact NR W
     have d2:lx u∣pF (kP n) L:=by rw[<-n2,<-j2];exact NR hv
     let ⟨x,x1,x2,x3⟩:=yv N d1;let ⟨k,y1,y2,y3⟩:=yv N d2;have ex:=N.eq (B.fW x x1) um (B.mo x x1) x3;have ey:=N.eq (B.fW k y1) um (B.mo k y1) y3;have kx:x.2=m:=RB.1 (by have:=Hx m x.2;omega);have ky:k.2=n:=RB.1 (by have:=Hx n k.2;omega);by_cases z:x=k
     .refine p1 A w ?_;rw[X,n3,<-kx,<-ky,z]
     .exact FL.RA B.AQ x1 y1 z (by rw[<-ex,<-ey])
  exact go (λp l=>l) U
 refine⟨d,b,λx r=>?_,M,t,j⟩
 .let ⟨S,I,h3⟩:=M x r;let ⟨h4,h5⟩:=aoo S;have s:lx x.1∣lx (dZ a):=by rw[<-t];exact ac4 r h3
  have hl:=jy s F.mo.ne;rw[gQ h4,F.IE]at hl;have:=F.l9;exact⟨G,λi=>F.qs h5 s i⟩
end
end Go.El
namespace Go.El
open Go Go.Proofs Go.RowKit
def ac8{L:V (Rx×Y)}:∀k n,Z (np L k n)<=k
 |0,_=>a7 _
 |k+1,n=>by
  have:=ac8 (L:=L) k<|n+1;rw[np,hP];split
  .rw[qB];omega
  .rw[m7];omega
open Rx
def TX{M}(k:Mo M)(f:dj M)(l:2<=sz M)(g:∀u v:Rx,Mo u->Mo v->dj u->dj v->M=u*v->2<=sz u->sz u<=sz v->False):br M:=by
 refine⟨l,λA B e=>eQ λi=>?_⟩;let ⟨u,v,a,c,d,m,n⟩:=Sp k e (λe=>i<|.inl e)<|λe=>i<|.inr e;rw[d]at f;let ⟨i1,i2⟩:=MS a c f;rcases Nat.le_total (sz u) (sz v)with hl|hl
 .exact g u v a c i1 i2 d m hl
 .exact g v u c a i2 i1 (d.trans<|Rx.mul_comm u v) n hl
def Bu l i:lx (l.map iQ) i=((E l i 0:O):D):=by rw[gx,aV,iT,aV];cases l[i]? <;>rfl
def TY(l:V O):dj (lx<|l.map iQ):=dj.of λi=>⟨_,Bu l i⟩
def aot l i:nu (lx<|l.map iQ) i=E l i 0:=by show(lx (l.map iQ) i).num=_;rw[Bu];rfl
def ac9{l}{n}(a:Z l=n+1)(c:E l n 0=1):bS (l.map iQ):=by refine .inr ?_;rw[cR,a,dE];have:=Bu l n;rw[gx]at this;rw[this,c];decide
def y7{l}{n}(a:Z l=n+1)(c:E l n 0=1):sz (lx<|l.map iQ)=n+1:=by rw[gQ (ac9 a c),cR,a]
def TZ{l}{n}(c:Z l=n+1)(a:E l n 0=1):Mo (lx<|l.map iQ):=by show lx (l.map iQ) (sz (lx<|l.map iQ)-1)=1;rw[y7 c a,dE,Bu,a];rfl
def y8{a c m}(d:m=a*c)(f:m≠0):aC a<=aC m:=by
 rw[d,pD];have:c≠0:=λe=>f (by rw[d,e,gn])
 exact Qr _ G
def y'{A}(a:Mo A){n}(c:sz A=n+1):nu A n=1:=by show(A n).num=1;rw[a.at c];rfl
section
variable{l:V O}{u v:Rx}
def xh(c:dj u)(d:dj v)(f:lx (l.map iQ)=u*v) i:E l i 0=sm (λa=>nu u a*nu v (i-a)) (i+1):=by rw[<-aot,f,HS c d,PS.eW]
end
def T0{l}{c0 c}(p:l=[c0,c,1])(r:∀a d:O,c0=a*d->c=a+d->False):br (lx<|l.map iQ):=by subst p;refine TX (TZ (n:=2) J J) (TY _) (by rw[y7 (n:=2) J J];decide) ?_;intro u v f g i k e H s2;have t:=dG f.ne g.ne;rw[<-e,y7 (n:=2) J J]at t;have x:sz u=1+1:=G;have A:sz v=1+1:=G;have B:=y' f x;have C:=y' g A;have m:=xh i k e 0;have F:=xh i k e 1;simp[sm,B,C]at m F;exact r (nu u 0) (nu v 0) m G
def ac'{l}{c0 g i}(A:l=[c0,g,i,1])(B:∀a k c:O,c0=a*c->g=a*k+c->i=a+k->False):br (lx<|l.map iQ):=by subst A;refine TX (TZ (n:=3) J J) (TY _) (by rw[y7 (n:=3) J J];decide) ?_;intro u v m p d f e P s2;have C:=dG m.ne p.ne;rw[<-e,y7 (n:=3) J J]at C;have F:sz u=1+1:=G;have H:sz v=2+1:=G;have K:=y' m F;have L:=y' p H;have M:nu u 2=0:=yC G;have r:=xh d f e 0;have t:=xh d f e 1;have x:=xh d f e 2;simp[sm,K,L,M]at r t x;exact B (nu u 0) (nu v 1) (nu v 0) r t x
def ada{l}{c0 m p r}(P:l=[c0,m,p,r,1])(Q:∀a f c d:O,c0=a*d->m=a*c+d->p=a*f+c->r=a+f->False)(S:∀a f c d:O,c0=f*d->m=f*c+a*d->p=f+a*c+d->r=a+c->False):br (lx<|l.map iQ):=by
 subst P;refine TX (TZ (n:=4) J J) (TY _) (by rw[y7 (n:=4) J J];decide) ?_;intro u v t x g i e o s2;have W:=dG t.ne x.ne;rw[<-e,y7 (n:=4) J J]at W;have k:=xh g i e 0;have A:=xh g i e 1;have B:=xh g i e 2;have C:=xh g i e 3;by_cases F:sz u=1+1
 .have H:sz v=3+1:=by omega
  have X:=y' t F;have K:=y' x H;have L:nu u 2=0:=yC G;have M:nu u 3=0:=yC G;simp[sm,X,K,L,M]at k A B C;exact Q (nu u 0) (nu v 2) (nu v 1) (nu v 0) k A B C
 .have F:sz u=2+1:=by omega
  have H:sz v=2+1:=G;have L:=y' t F;have j:=y' x H;have M:nu u 3=0:=yC G;have K:nu v 3=0:=yC G;simp[sm,L,j,M,K]at k A B C;exact S (nu u 1) (nu u 0) (nu v 1) (nu v 0) k G G G
def adb{a k}(c:a*a=k)(f:k<36):∃n:Y,n<=5/\(n:O)*n=k:=by
 refine⟨aC a,?_,by rw[aou a];exact c⟩;refine eQ λg=>?_
 have d:6<=aC a:=G;have:=ls d d;have i:((aC a*aC a:Y):O)=k:=by rw[eU,aou a];exact c
 omega
def aov:br (lx<|([-2,0,1]:V O).map iQ):=T0 J λa b c d=>by have f:=y8 c T;have:a= -2\/a= -1\/a=0\/a=1\/a=2:=G;rcases this with rfl|rfl|rfl|rfl|rfl<;>omega
def aow:br (lx<|([1,0,1]:V O).map iQ):=T0 J λa b c d=>by have f:=y8 c T;have:a= -1\/a=0\/a=1:=G;rcases this with rfl|rfl|rfl<;>omega
def aox:br (lx<|([-2,0,0,1]:V O).map iQ):=ac' J λa b c d f g=>by have i:=y8 d T;have:a= -2\/a= -1\/a=0\/a=1\/a=2:=G;rcases this with rfl|rfl|rfl|rfl|rfl<;>omega
def aoy:br (lx<|([1,1,1]:V O).map iQ):=T0 J λa b c d=>by have f:=y8 c T;have:a= -1\/a=0\/a=1:=G;rcases this with rfl|rfl|rfl<;>omega
def aoz:br (lx<|([-1,-1,0,1]:V O).map iQ):=ac' J λa b c d f g=>by have i:=y8 d T;have:a= -1\/a=0\/a=1:=G;rcases this with rfl|rfl|rfl<;>omega
def ade{a f c d m}(g:1=f*d)(i:m=f+a*c+d)(r:0=a+c)(t:m=0\/m= -10):False:=by
 have u:=y8 g T;have e:c= -a:=G;subst e;rw[Int.mul_neg]at i;have:f= -1\/f=0\/f=1:=G;rcases this with rfl|rfl|rfl
 .have:d= -1:=by omega
  subst this;obtain⟨n,l,p⟩:=adb (a:=a) (k:= -2-m) G G;have:n=0\/n=1\/n=2\/n=3\/n=4\/n=5:=G;rcases this with rfl|rfl|rfl|rfl|rfl|rfl<;>omega
 .omega
 .have:d=1:=by omega
  subst this;obtain⟨n,l,p⟩:=adb (a:=a) (k:=2-m) G G;have:n=0\/n=1\/n=2\/n=3\/n=4\/n=5:=G;rcases this with rfl|rfl|rfl|rfl|rfl|rfl<;>omega
def aoA:br (lx<|([1,0,0,0,1]:V O).map iQ):=ada J (λa b c d f k g i=>by have l:=y8 f T;have:a= -1\/a=0\/a=1:=G;rcases this with rfl|rfl|rfl<;>omega) λa b c d f k g i=>ade f g i<|.inl J
def aoB:br (lx<|([1,0,-10,0,1]:V O).map iQ):=ada J (λa b c d f k g i=>by have l:=y8 f T;have:a= -1\/a=0\/a=1:=G;rcases this with rfl|rfl|rfl<;>omega) λa b c d f k g i=>ade f g i<|.inr J
def aoC:br (lx<|([-3,1]:V O).map iQ):=anZ<|y7 (n:=1) J J
def aoD{c:Type}{l}{i}(d:c)(a:i<Z l):E l i d∈l:=by rw[aV,cH a];exact ru a
def aoE(l:V (O×O×O))(a:Y)(k:a<=1000)(p:∀x∈l,nq x):al z 13 [I RW l,j a] (I .q<|yA l a):=by
 refine aR Tryz.func13<|ug 0 J λm=>?_;have m:Z l*3<=140737488355328:=m;refine N J<|w<|fg .q [] J J (s J<|U<|N J ?_);refine R<|aY (α:=Y) (λi=>⟨[(0,I RW l),(1,j a),(5,.c<|.X 1000000),(6,j i)],[(1000000,.vec 44 .q<|(h i l).map pN)],3,[]⟩) (λi=>i<=Z l/\i<=a+1) (λi=>Z l-i) 0 ⟨be _,be _⟩ aH ?_;rintro i ⟨u,r⟩;refine U<|w<|rg 12 J J (λd=>?_)<|λd=>?_
 .have d:i<Z l:=by have d:(i:O)<(Z l:O):=aK d;omega
  refine s J<|y J (λh2=>?_)<|λh2=>?_
  .have h2:i<=a:=by have h2:(i:O)<=a:=aK h2;omega
   have f:=HM pN (0,0,0) l i d;have t:=p (E l i (0,0,0))<|aoD _ d;have n:=akX (E l i (0,0,0)) t;rw[(NS:E l i (0,0,0)=E l (ae (i:O)) RW.aD)]at n f;refine aA<|U<|R<|bT<|rc J J n (rl .q [pN (E l (ae (i:O)) RW.aD)] J J (ra J J J J J J J J J ?_ ?_<|s J<|aX<|rt J<|aG (i+1) ⟨G,G⟩ uN<|Wk.trans (wk (st':=⟨[(0,I RW l),(1,j a),(5,.c<|.X 4007000),(6,j ((i+1:Y):O))],[(4007000,.vec 44 .q<|(h (i+1) l).map pN)],6,[]⟩) ⟨sR J,sR J,sR J,sE J ?_,e⟩ ⟨bE J ?_,e⟩)<|Wk.trans (fa 1000000 4007000 J J J) aH)) (hp:=?_)
   .show(_+1+(_+1)/4+192)*64<=_;simp only[cR,fp];omega
   .show(_+1)*4<=_;simp only[cR,fp];omega
   .rfl
   .rw[f]
   .simp only[Pr.an,Pr.h,num,fR,true_and,and_true];first|done|omega
  .have h2:¬i<=a:=by have h2:¬(i:O)<=a:=aT h2;omega
   have g:=AT ((h i l).map pN) DW;rw[show eV ((h i l).map pN)=yA l a by rw[yA,(G:i=a+1)]]at g;exact a6<|aO<|c6 1000000 J J J<|bD J J g J<|cx J
 .have d:i=Z l:=by have d:¬(i:O)<(Z l:O):=aT d;omega
  have g:=AT ((h i l).map pN) DW;rw[show eV ((h i l).map pN)=yA l a by rw[yA,iK G,iK G]]at g;refine s J<|y J (λh2=>oz)<|λ_=>?_;exact a6<|aO<|c6 1000000 J J J<|bD J J g J<|cx J
def adf{x}(a:nq x):nq (wQ x):=⟨a.1,a.2.1,eO 0,(by decide:(0:O)<=255)⟩
def aoF(l:V (O×O×O))(a:Y)(g:a<=1000)(m:∀x∈l,nq x):al z 28 [I RW l,j a] (I .q<|yB l a):=by
 refine aR Tryz.func28<|ug 0 J λk=>?_;have k:Z l*3<=140737488355328:=k;refine N J<|w<|fg RW [] J J (s J<|U<|N J ?_);refine R<|aY (α:=Y) (λi=>⟨[(0,I RW l),(1,j a),(5,.c<|.X 1000000),(6,j i)],[(1000000,.vec 57 RW<|(h i l).map wQ)],3,[]⟩) (λi=>i<=Z l) (λi=>Z l-i) 0 (be _) aH ?_;intro i u;refine U<|N J<|y J (λd=>?_)<|λd=>?_
 .have d:i<Z l:=by have d:(i:O)<(Z l:O):=aK d;omega
  have f:=HM wQ (0,0,0) l i d;rw[(NS:E l i (0,0,0)=E l (ae (i:O)) RW.aD)]at f;refine aA<|U<|R<|bT<|rl RW [wQ (E l (ae (i:O)) RW.aD)] J J (ra J J J J J J J J J ?_ ?_<|s J ?_) (hp:=aF)
  .show(_+1+(_+1)/4+192)*3<=_;simp only[cR,fp];omega
  .show(_+1)*3<=_;simp only[cR,fp];omega
  .refine aX (rt J (hp:=aF)<|aG (i+1) d uN<|Wk.trans (wk (st':=⟨[(0,I RW l),(1,j a),(5,.c<|.X 4013000),(6,j ((i+1:Y):O))],[(4013000,.vec 57 RW<|(h (i+1) l).map wQ)],6,[]⟩) ⟨sR J,sR J,sR J,sE J ?_,e⟩ ⟨bE J ?_,e⟩)<|Wk.trans (fa 1000000 4013000 J J J) aH)
   .rfl
   .rw[f]
 .have d:i=Z l:=by have d:¬(i:O)<(Z l:O):=aT d;omega
  subst d;rw[fv];have n:=aoE (l.map wQ) a g (λx p=>by obtain⟨r,t,rfl⟩:=jW.1 p;exact adf<|m r t);exact a6<|aO<|c6 1000000 J J J<|bD J J n J<|cx J
def aoG{a}(p:bS a)(m:a≠[]){g B}(x:0<g)(n:∀i,∃d:O,aC d<=B/\((g:Y):D)*E a i 0=(d:D)):∃c,c<=B/\CD c B (lx<|dZ a):=by
 have k:((g:Y):D)≠0:=wO G;let ⟨w,r,f⟩:=n<|Z a-1;have t:=p.ne m;have u:w≠0:=λe=>by
  rw[e]at f;rcases AN.1 f with e|e
  .exact k e
  .exact t e
 refine⟨aC w,r,⟨G,λi=>?_⟩⟩;let ⟨d,v,h2⟩:=n i;rw[yx m,fV,gx];rcases Int.lt_or_gt_of_ne u with l|l
 .refine⟨-d,G,?_⟩;have e:((aC w:Y):D)= -(w:D):=by rw[<-qV,(G:((aC w:Y):O)= -w),HG]
  rw[e,HG,<-h2,<-f];grind
 .refine⟨d,v,?_⟩;have e:((aC w:Y):D)=(w:D):=by rw[<-qV,(G:((aC w:Y):O)=w)]
  rw[e,<-h2,<-f];grind
def aoH{a}(l:bS a)(n:a≠[])(r:Z a<=9){D}(t:0<D)(g:D<=2^22)(p:∀i,∃f:O,aC f<=2^22/\((D:Y):Rat)*E a i 0=(f:Rat)):nz a:=by
 have d:∀{m:Y},m<=2^22->m<=2^1500:=λh=>cj h<|Rx.Mb 1500 (k:=22) T
 let ⟨c,c1,u⟩:=aoG l n t p;refine⟨l,n,r,⟨(D:O),G,d g,λi=>?_⟩,⟨c,22,22,u,c1,T,G⟩⟩;let ⟨f,v,h2⟩:=p i;exact⟨f,d v,h2⟩
end Go.El
namespace Go.El
open Go Go.Proofs Go.RowKit Fx
def T1{P:Y->Prop}(a:∃n,P n):∃n,P n/\∀k,k<n->¬P k:=by
 let ⟨n,c⟩:=a;induction n using Nat.strongRecOn with
 |_ n d=>
  by_cases e:∃k,k<n/\P k
  .let ⟨k,f,h2⟩:=e;exact d k f h2
  .exact⟨n,c,λk g i=>e ⟨k,g,i⟩⟩
section
variable{p:Y}
def aoI(H:bq p)(A B:Fx p) i:pk (A-B) (p^i)=pk A (p^i)-pk B (p^i):=
 Hi (by rw[<-Mx H,kU])
def adg(H:bq p){Q:Fx p}(c:br Q){i m}(a:Q∣pk X (p^(i+m))-pk X (p^i)):Q∣pk X (p^m)-X:=by rw[mE,gN,tj,<-aoI H]at a;exact NJ H c _ a
def adh(H:bq p)(i:Y):∀a:V O,ev (a.map<|K (p:=p)) (pk X<|p^i)=pk (fx<|a++[1]) (p^i)
 |[]=>by rw[sF,A1,AM];rfl
 |c::a=>by rw[mc,HX,Mx H,Sc H,tk,<-adh H i a];rfl
def aoJ(H:bq p){d}(l:Mon p d)(t:br (fx d:Fx p)):(fx d:Fx p)∣pk X (p^(Z d-1))-X:=by
 have z:sz (fx d:Fx p)=Z d:=cO l.c;have D:2<=Z d:=by have:=t.1;omega
 have B:=H.hp.1;have ex:∃m,0<m/\(fx d:Fx p)∣pk X (p^m)-X:=by
  have f:=λi=>xd H l.c l.ne<|pk X<|p^i
  have u:∀i r,ae (E (gT H d<|pk X<|p^i) r 0)<p:=λi r=>by have:=((f i).1.1 r);omega
  let ⟨i,j,I,_,C⟩:=Mt (p^(Z d-1)) (p^(Z d-1)+1) (λi=>code p (λr=>ae<|E (gT H d<|pk X<|p^i) r 0)<|Z d-1) (dL _) λi _=>HV _ _ λr _=>u i r
  have F:=R7 _ _ _ (λr _=>u i r) (λr _=>u j r) C;have e:gT H d (pk X<|p^i)=gT H d (pk X<|p^j):=by
   refine tx (p:=p) (f i).1 (f j).1<|mk_eq.2<|Cg.of λr=>?_;by_cases v:r<Z d-1
   .have J:=(f i).1.1 r;have N:=(f j).1.1 r;have R:=F r v;show E (gT H d<|pk X<|p^i) r 0%_=E (gT H d<|pk X<|p^j) r 0%_;have:E (gT H d<|pk X<|p^i) r 0=E (gT H d<|pk X<|p^j) r 0:=G;rw[this]
   .have T:=(f i).2.1;have U:=(f j).2.1;show E (gT H d<|pk X<|p^i) r 0%_=E (gT H d<|pk X<|p^j) r 0%_;rw[eK _ G,eK _ G]
  obtain⟨m,rfl⟩:∃m,j=i+m:=⟨j-i,G⟩;refine⟨m,G,adg H t (i:=i) ?_⟩;have x:=(f i).2.2;rw[e]at x;exact nl<|nR (nl x) (f<|i+m).2.2
 let ⟨m,⟨L,m1⟩,M⟩:=T1 ex;have P:¬m+1<sz (fx d:Fx p):=λh=>aac H t L h m1
 obtain⟨g,rfl⟩:∃g,d=g++[1]:=⟨d.dropLast,by
  have e:=T2 l.ne;have Q:d.getLast l.ne=1:=by have:=l.one;rw[aV,cH G]at this;rw[aoK];exact this
  rw[Q]at e;exact e.symm⟩
 have v:Z (g++[(1:O)])=Z g+1:=ay;have S:m<=Z g:=by
  refine eQ λV=>?_
  refine roots H t (g.map<|K (p:=p)) ((cc m).map λi=>pk X<|p^i) bX (λy W=>?_) ?_
  .obtain⟨i,_,rfl⟩:=jW.1 W;rw[adh H];obtain⟨k,o⟩:∃k,p^i=k+1:=⟨p^i-1,by have:=kh (n:=i) (G:0<p);omega⟩;rw[o,pk];exact dvd_mul_left _ _
  .refine DZ.2<|Mz ?_ Jd;intro a b Y A s w;have A:=oW.1 A;obtain⟨k,rfl⟩:∃k,b=a+k:=⟨b-a,G⟩;exact M k G ⟨G,adg H t<|nl w⟩
 rw[v];have:m=Z g:=G;rwa[this]at m1
end
def MD.mul{d f}{l K}(g:MD d l)(k:MD f K):MD (d+f) (l*K):=by
 refine⟨?_,λi m=>?_⟩
 .rw[PS.eW,wR (a:=d) G λi m n=>?_]
  .rw[(G:d+f-d=f),g.one,k.one];rfl
  .by_cases c:d<i
   .rw[g.z i c,mD]
   .rw[k.z _ G,gn]
 .rw[PS.eW,pB λj p=>?_];by_cases c:d<j
  .rw[g.z j c,mD]
  .rw[k.z _ G,gn]
section
variable{p:Y}
def adi(H:bq p){f:V O}:∀{l:V (V O)},(∀a∈l,Co (fx f:Fx p) (fx a))->Co (fx f:Fx p) (fj l)
 |[],_=>⟨0,1,by rw[zero_mul,zero_add];exact one_mul 1⟩
 |a::l,c=>(c a ay).mul (adi H λd g=>c d<|by simp[g])
end
structure EH(p k:Y)(f:V O)(l X:V (V O)):Prop where
 len:X.length=l.length
 ok:∀i,i<l.length->aL (X.getD i [])/\(X.getD i []).length=(l.getD i []).length/\(fx (X.getD i []):Fx p)=fx (l.getD i [])/\∀a,dq ((X.getD i []).getD a 0) ((p:O)^k)=(X.getD i []).getD a 0
 pr:Cg ((p:O)^k) (ps f) (oE X)
section
variable{p:Y}
def adk(H:bq p){F:Fx p}{d}(g:F≠0)(n:2<=sz F)(i:∀Q,br Q->Q∣F->d+1<=sz Q)(t:sz F<=2*d):br F:=by
 refine⟨n,λA B e=>?_⟩;have a:A≠0:=λc=>g (by rw[e,c,zero_mul])
 have f:B≠0:=λc=>g (by rw[e,c,mul_zero])
 have r:=dG H a f;have pA:=eL H.pos a;have u:=eL H.pos f;rw[<-e]at r;refine eQ λk=>?_
 have v:sz A≠1:=λe=>k<|.inl e
 have x:sz B≠1:=λe=>k<|.inr e
 let ⟨Q,q1,l⟩:=rY H _ A (dL _) G;let ⟨R,r1,m⟩:=rY H _ B (dL _) G;have C:=i Q q1 (by rw[e];exact lv l B);have K:=i R r1 (by rw[e];exact dV m A);have L:=jy H l a;have M:=jy H m f;omega
def adl(H:bq p){Q}(f:br Q):∃d,Mon p d/\br (fx d:Fx p)/\(fx d:Fx p)∣Q/\Q∣fx d/\Z d=sz Q:=by
 obtain⟨a,g,rfl⟩:=iW H.pos Q;have m:a≠[]:=λe=>f.ne H (by rw[e,jM])
 let ⟨m1,k,n,⟨c,r⟩,l⟩:=MC H g m;refine⟨kT p a,m1,⟨?_,λA B e=>?_⟩,n,⟨K c,r⟩,by rw[k,cO g]⟩
 .have:=f.1;rw[cO g]at this;rw[cO m1.c,k];exact this
 .rw[e,<-mul_assoc]at l;rcases f.2 _ _ l with h|h
  .let ⟨t,i⟩:=uE H h;exact .inl (wL H (B:=t*K (E a (Z a-1) 0))<|by rw[mul_assoc];exact i)
  .exact .inr h
structure Bv(p:Y)(f:V O)(d:Y):Prop where
 aL:Mon p f
 kV:pQ (fx f:Fx p)
 low:∀Q,br Q->Q∣(fx f:Fx p)->d+1<=sz Q
structure q9(p:Y)(f:V O)(d:Y):Prop where
 aL:Mon p f
 kV:pQ (fx f:Fx p)
 NT:∀Q,br Q->Q∣(fx f:Fx p)->sz Q=d+1
def Bv.fW(H:bq p){f}{d}(a:Bv p f d)(g:2<=Z f)(i:Z f<=2*d):br (fx f:Fx p):=
 adk H (a.aL.jN H) (by rw[cO a.aL.c];exact g) a.low (by rw[cO a.aL.c];exact i)
def q9.fW(H:bq p){f}{d}(a:q9 p f d)(g:2<=Z f)(l:Z f<=d+1)(m:1<=d):br (fx f:Fx p):=
 adk H (d:=d) (a.aL.jN H) (by rw[cO a.aL.c];exact g) (λQ i k=>by rw[a.NT Q i k];exact a7 _) (by rw[cO a.aL.c];omega)
def q9.ex(H:bq p){f}{d}(g:q9 p f d)(k:2<=Z f):∃a,Mon p a/\br (fx a:Fx p)/\(fx a:Fx p)∣fx f/\Z a=d+1:=by let ⟨Q,q1,i⟩:=rY H _ (fx f:Fx p) (dL _) (by rw[cO g.aL.c];exact k);let ⟨a,r1,l,m,r,n⟩:=adl H q1;exact⟨a,r1,l,dvd_trans m i,by rw[n,g.NT Q q1 i]⟩
def aoL(H:bq p){f g}(d:Mon p f)(a:Mon p g):(aU f g p).1.length=Z f-(Z g-1):=by let ⟨_,_,_,_,_,h⟩:=lu H.hp H.le d.c.1 a.c a.ne;exact h
def sf(H:bq p){f g}(d:Mon p f)(a:Mon p g)(i:(fx g:Fx p)∣fx f):Mon p (aU f g p).1/\(fx f:Fx p)=fx (aU f g p).1*fx g/\(aU f g p).1.length+Z g=Z f+1/\Z g<=Z f:=by
 have k:Z g<=Z f:=by have:=jy H i<|d.jN H;rwa[cO a.c,cO d.c]at this
 have l:=a.pos;have:=aoL H d a;exact⟨Sd H d a k,AS H d.c a.c a.ne i,G,k⟩
def q9.parts(H:bq p){f g}{d}(a:q9 p f d)(m:Mon p g)(i:(fx g:Fx p)∣fx f):q9 p g d/\q9 p (aU f g p).1 d:=by let ⟨q1,q2,n,r⟩:=sf H a.aL m i;have c:(fx (aU f g p).1:Fx p)∣fx f:=NK;exact⟨⟨m,a.kV.of_dvd i,λQ k l=>a.NT Q k<|dvd_trans l i⟩,⟨q1,a.kV.of_dvd c,λQ k l=>a.NT Q k<|dvd_trans l c⟩⟩
def tJ.app{f g}{l m}{F}(a:tJ p g l)(c:tJ p f m)(d:(fx F:Fx p)=fx f*fx g):tJ p F (l++m):=
 ⟨λx i=>(bg.1 i).elim (a.parts x)<|c.parts x,by rw[Ix,a.prod,c.prod,d,mul_comm]⟩
def Bv.step(H:bq p){f u i}{d}(a:Bv p f d)(d1:1<=d)(L:bs p i)(A:(fx f:Fx p)∣fx u-pk X (p^d))(B:(fx i:Fx p)=fx u-X):q9 p (fH p f i) d/\Bv p (aU f (fH p f i) p).1 (d+1)/\(fx (fH p f i):Fx p)∣fx f:=by
 let ⟨m1,m,M,U,V,P⟩:=yG H a.aL.c L a.aL.ne;let ⟨q1,q2,b,j⟩:=sf H a.aL m1 m;generalize fH p f i=g at*;generalize (aU f g p).1=S at*;have k:(fx S:Fx p)∣fx f:=NK;refine⟨⟨m1,a.kV.of_dvd m,λQ n l=>?_⟩,⟨q1,a.kV.of_dvd k,λQ n l=>?_⟩,m⟩
 .have W:=a.low Q n<|dvd_trans l m;have t:Q∣fx u-X:=by rw[<-B];exact dvd_trans l M
  have v:Q∣pk X (p^d)-X:=nR (nl<|dvd_trans (dvd_trans l m) A) t;have C:¬d+1<sz Q:=λx=>aac H n G x v
  omega
 .have W:=a.low Q n<|dvd_trans l k;refine eQ λo=>?_
  let ⟨q,r1,F,K,w,y⟩:=adl H n;have r:(fx q:Fx p)∣fx f:=dvd_trans K<|dvd_trans l k;have t:=aoJ H r1 F;rw[(G:Z q-1=d)]at t;have v:(fx q:Fx p)∣fx i:=by rw[B];exact nR (dvd_trans r A) t
  have C:(fx q:Fx p)∣fx g:=by rw[P];exact dvd_add (dV r U)<|dV v V
  exact a.kV _ F (by rw[q2];exact wM (dvd_trans K l) C)
structure q'(p:Y)(f a:V O):Prop where
 aL:Mon p a
 kV:pQ (fx a:Fx p)
 iff:∀Q,br Q->(Q∣(fx f:Fx p)↔Q∣fx a)
 len:a.length<=f.length
def q'.one(H:bq p){f}(a:Mon p f)(k:Z f<=1):q' p f f:=
 ⟨a,λQ d g=>by have i:=jy H g<|a.jN H;have l:=dG H (d.ne H)<|d.ne H;have m:=d.1;rw[cO a.c]at i;omega,λQ _=>Iff.rfl,a7 _⟩
def q'.root(H:bq p){f c}(g:Mon p f)(i:2<=Z f)(k:bt (fx f:Fx p)=0)(a:q' p (lW p f<|jb p<|Z f) c):q' p f c:=by
 let ⟨r,l,t,u⟩:=acC H g i k;refine⟨a.aL,a.kV,λQ d=>?_,by have:=a.len;omega⟩;rw[<-a.iff Q d,l];refine⟨NJ H d p,λm=>?_⟩;obtain⟨q,n⟩:∃q,p=q+1:=⟨p-1,A3⟩;have e:pk (fx (lW p f<|jb p<|Z f):Fx p) p=pk (fx<|lW p f<|jb p<|Z f) (q+1):=by rw[<-n]
 rw[e];exact dV m _
def T3(H:bq p){a d}(f:Mon p a)(g:Mon p d):Mon p (cG a d p)/\Z (cG a d p)+1=Z a+Z d:=by have k:=(mH H.pos a d);have r:=uQ (p:=p) a d;have i:=dG H (f.jN H)<|g.jN H;rw[<-r,cO k,cO f.c,cO g.c]at i;have u:=f.pos;have v:=g.pos;refine⟨⟨k,λe=>by rw[e]at i;simp at i;omega,?_⟩,i⟩;have l:=(show aL a from⟨f.ne,f.one⟩).tz.mul (show aL d from⟨g.ne,g.one⟩).tz;have m:=(DB a d (p:O)).at (Z a-1+(Z d-1));rw[l.one,H.one,cw]at m;have t:Z (cG a d p)-1=Z a-1+(Z d-1):=G;rw[t];have n:=k.1<|Z a-1+(Z d-1);rwa[gk n.1 n.2]at m
def q'.step(H:bq p){f m g rest c}(n:Mon p f)(h2:2<=Z f)(r:bs p m)(W:(fx m:Fx p)=bt (fx f))(B:m≠[])(eg:g=fH p f m)(l:q' p g rest)(ec:c=fH p (aU f g p).1 rest):Z g<Z f/\q' p f (cG (aU f g p).1 (aU rest c p).1 p):=by
 let ⟨m1,X,b,U,V,j⟩:=yG H n.c r n.ne;rw[<-eg]at m1 X b j;have I:Z g<=Z f-1:=by
  have C:(fx m:Fx p)≠0:=λe=>by rw[<-jM]at e;exact B<|tx r (qN H.pos) e
  have J:=jy H b C;have F:=L2 H (fx f:Fx p);rw[<-W,cO n.c]at F;rw[cO m1.c]at J;omega
 let ⟨q1,o,R,Y⟩:=sf H n m1 X;have K:pQ (fx (aU f g p).1:Fx p):=aad H (n.jN H) o (by rw[<-W];exact j);generalize (aU f g p).1=part at*;let ⟨L,q,s,S,T,y⟩:=yG H q1.c l.aL.c q1.ne;rw[<-ec]at L q s y;let ⟨r1,t,r3,r4⟩:=sf H l.aL L s;generalize (aU rest c p).1=d at*;have e:(fx (cG part d p):Fx p)=fx part*fx d:=uQ part d;let ⟨t1,t2⟩:=T3 H q1 r1;have pc:=L.pos;refine⟨G,⟨t1,λQ a M=>?_,λQ a=>?_,by have:=l.len;omega⟩⟩
 .rw[e]at M;have P:Q∣fx part->Q∣fx d->False:=λi u=>by
   have x:Q∣fx rest:=by rw[t];exact lv u _
   have N:Q∣fx c:=by rw[y];exact dvd_add (dV i S)<|dV x T
   exact l.kV Q a (by rw[t];exact wM u N)
  by_cases k:Q∣fx part
  .let ⟨w,hw⟩:=k;let ⟨v,z⟩:=M;have O:w*fx d=v*Q:=by refine yt H (a.ne H) (?_:w*fx d*Q=v*Q*Q);rw[hw]at z;rw[mul_assoc v,<-z];ac_rfl
   rcases a.nU H ⟨v,O⟩with i|i
   .exact K Q a (by rw[hw];exact wM i<|dvd_refl Q)
   .exact P ⟨w,hw⟩ i
  .have A:Co Q (fx part):=(a.or H<|fx part).resolve_left k;have i:Q*Q∣fx d:=by have F:Co (fx part) (Q*Q):=A.symm.mul A.symm;exact F.symm.dvd (by exact M)
   exact l.kV Q a (by rw[t];exact lv i _)
 .rw[e,o];have E:=l.iff Q a;refine⟨λk=>?_,λk=>?_⟩
  .rcases a.nU H k with k|k
   .exact lv k _
   .have u:=E.1 k;rw[t]at u;rcases a.nU H u with x|x
    .exact dV x _
    .exact lv (dvd_trans x q) _
  .rcases a.nU H k with k|k
   .exact lv k _
   .exact dV (E.2<|by rw[t];exact lv k _) _
def adn(H:bq p){Q:Fx p}(a:br Q):∀{l:V (V O)},Q∣gU p l->∃g∈l,Q∣fx g
 |[],c=>absurd c<|a.AP H
 |g::l,c=>by
  rcases a.nU H (show Q∣fx g*gU p l from c)with k|k
  .exact⟨g,ay,k⟩
  .let ⟨x,h1,h2⟩:=adn H a k;exact⟨x,yw,h2⟩
def ado(H:bq p){f i}{l}(n:q' p f i)(c:tJ p i l):Br p f l:=by
 refine⟨λg d=>?_,?_⟩
 .let ⟨u,g2,r⟩:=c.parts g d;exact⟨u,g2,r,(n.iff _ r).2<|by rw[<-c.prod];exact NH p d⟩
 .have m:∀l:V (V O),(∀g∈l,br (fx g:Fx p))->gU p l∣fx i->l.Pairwise λx y=>x≠y:=by
   intro l;induction l with
   |nil=>intro _ _;exact EA
   |cons g l v=>
    intro t a
    refine ju.2 ⟨λk A e=>?_,v (λx hx=>t x lF) (dvd_trans (dvd_mul_left _ _) a)⟩
    subst e
    exact n.kV _ (t g ay)<|dvd_trans (wM (dvd_refl _)<|NH p A) a
  exact m _ (λg d=>(c.parts g d).2.2) (by rw[c.prod];exact dvd_refl _)
def adp:∀(a:V (V O))(f:V O)(m:Y)(l:V (V O×O)),(∀x∈l,x∈(gh p m a (f,l)).2)/\∀g∈a,∃n,(g,n)∈(gh p m a (f,l)).2
 |[],f,m,l=>⟨λx hx=>hx,λg d=>by cases d⟩
 |g::a,f,m,l=>by
  let ⟨c,h2⟩:=adp a (pull p g (Z f+1) f 0).1 m<|l++[(g,(((pull p g (Z f+1) f 0).2:Y):O)*(m:O))];rw[gh];refine⟨λx hx=>c x lF,λx hx=>?_⟩;rcases bY.1 hx with rfl|hx
  .exact⟨_,c _<|fZ _<|gI.2 J⟩
  .exact h2 x hx
def aoM(H:bq p){f u}{l}(L:Mon p f)(x:q' p f u)(i:tJ p u l):Bs p (fx f) (gh p 1 l (f,[])).2:=by
 obtain⟨a,j,o⟩:=TG H l f [] (tK.start L) (ado H x i);have d:∀Q,br Q->Q∣fx (gh p 1 l (f,[])).1->False:=λQ k d=>by
  have K:Q∣fx f:=by rw[a.prod,qQ];exact lv d _
  have A:=(x.iff Q k).1 K;rw[<-i.prod]at A;obtain⟨g,B,g2⟩:=adn H k A;obtain⟨n,C⟩:=(adp l f 1 []).2 g B;have M:=a.nd _ C;have m:=(i.parts g B).2.2;obtain⟨w,F⟩:=g2;rcases m.2 _ _ F with e|e
  .obtain⟨v,P⟩:=uE H e;refine M<|dvd_trans ⟨v,?_⟩ d;show Q=v*fx g;rw[F,<-mul_assoc,P,one_mul]
  .have:=k.1;omega
 have S:=a.aL.pos;have W:(fx (gh p 1 l (f,[])).1:Fx p)=1:=by
  have r:(gh p 1 l (f,[])).1.length<=1:=by
   refine eQ λC=>?_
   obtain⟨Q,q1,X⟩:=rY H _ (fx (gh p 1 l (f,[])).1:Fx p) (dL _) (by rw[cO a.aL.c];omega);exact d Q q1 X
  rw[<-A1];congr 1;have t:=a.aL.one;generalize (gh p 1 l (f,[])).1=b at*;match b,r,S,t with
  |[c],_,_,t=>rw[show c=1 from t]
 refine⟨a.fW,a.ds,?_⟩;have:=a.prod;rw[W,qQ,one_mul]at this;exact this.symm
end
def lA(a:V O)(c:O)(d:V O):V O:=(cc<|Z a).map λi=>E a i 0+c*E d i 0
def IF a c d:Z (lA a c d)=Z a:=by simp[lA]
def NU a f d(g:Z d<=Z a) i:E (lA a f d) i 0=E a i 0+f*E d i 0:=by
 by_cases c:i<Z a
 .unfold lA;rw[aV,iT,kS c];rfl
 .rw[eK _ (by rw[IF];omega),eK a G,eK d G,gn];rfl
def adq a d c(f:Z c<=Z a):ps (lA a d c)=ps a+PS.K d*ps c:=PS.ext λi=>by rw[PS.eI,PS.eX];exact NU a d c f i
def T5{a b}c(d:aL a)(f:Z b<Z a):aL (lA a c b):=by refine⟨λe=>by have:=IF a c b;rw[e]at this;exact d.1<|fB this.symm,?_⟩;rw[IF,NU a c b G,d.2,eK b G,gn];rfl
section
variable{p:Y}
structure tL(p:Y)(f g h a K:V O)(c:Y):Prop where
 Gm:aL a
 Gl:a.length=g.length
 Gp:(fx a:Fx p)=fx g
 Gr:∀i,0<=a.getD i 0/\a.getD i 0<(p:O)^c
 Km:aL K
 Kl:K.length=h.length
 Kp:(fx K:Fx p)=fx h
 Kr:∀i,0<=K.getD i 0/\K.getD i 0<(p:O)^c
 pr:Cg ((p:O)^c) (ps f) (ps a*ps K)
def tL.start{f g a}(d:Mon p g)(k:Mon p a)(m:(fx f:Fx p)=fx g*fx a):tL p f g a g a 1:=by have l:(p:O)^1=p:=Int.pow_one _;refine⟨⟨d.ne,d.one⟩,J,J,λi=>by rw[l];exact d.c.1 i,⟨k.ne,k.one⟩,J,J,λi=>by rw[l];exact k.c.1 i,?_⟩;rw[l];exact mk_eq.1<|show Fx.mk (ps f) (bm.ps p f)=Fx.mk (ps g*ps a) ((bm.ps p g).mul<|bm.ps p a)from m
def adr{c d}{a}(n:0<a)(f:∀i,0<=E c i 0/\E c i 0<a)(g:∀i,0<=E d i 0/\E d i 0<(p:O))(k:Z d<=Z c) i:0<=E (lA c a d) i 0/\E (lA c a d) i 0<a*p:=by rw[NU c a d k];let ⟨a1,a2⟩:=f i;let ⟨l,r⟩:=g i;have t:0<=a*E d i 0:=iL G l;have m:a*(E d i 0+1)<=a*p:=jR G G;rw[nD,mF]at m;omega
def ads{a d}{c}(f:Z d<=Z a)(g:(p:O)∣c):(fx (lA a c d):Fx p)=fx a:=by refine Mw<|Cg.of λi=>?_;obtain⟨z,rfl⟩:=g;rw[cw,cw,NU _ _ _ f,iy,K0]
def aoN(H:bq p){g d a t}(f:Mon p g)(m:Mon p d)(PH:2<=Z g)(he:bs p a)(hl:Z a+2<=Z g+d.length)(ht:(fx g:Fx p)∣fx t*fx d-1):
  (aU (cG t a p) g p).2.length<Z g/\bs p (aU (cG t a p) g p).2/\
  bs p (aU (aS<|fG a (cG (aU (cG t a p) g p).2 d p) p) g p).1/\(aU (aS<|fG a (cG (aU (cG t a p) g p).2 d p) p) g p).1.length<d.length/\
  (fx a:Fx p)=fx (aU (cG t a p) g p).2*fx d+fx (aU (aS<|fG a (cG (aU (cG t a p) g p).2 d p) p) g p).1*fx g:=by
 have n:=mH H.pos t a
 let ⟨_,_,_,d4,d5,_⟩:=lu H.hp H.le n.1 f.c f.ne
 have K:=MB H n f.c f.ne
 rw[uQ]at K
 have r:=d5 n
 generalize (aU (cG t a p) g p).2=dg at*
 have u:(fx (aS<|fG a (cG dg d p) p):Fx p)=fx a-fx dg*fx d:=by rw[Sb,uQ]
 have k:bs p (aS<|fG a (cG dg d p) p):=km H.pos<|AF H.pos _ _
 generalize aS (fG a (cG dg d p) p)=s at*
 have X:(fx g:Fx p)∣fx s:=by rw[u];have b:(fx g:Fx p)∣fx dg*fx d-fx t*fx a*fx d:=pH K<|mJ _ _;have L:(fx g:Fx p)∣fx a*(fx t*fx d)-fx a*1:=pH (mJ _ _) ht;rw[mul_one]at L;have j:(fx g:Fx p)∣fx dg*fx d-fx a:=nR b (by have o:fx t*fx a*fx d=fx a*(fx t*fx d:Fx p):=fc;rw[o];exact L);exact nl j
 have v:=AS H k f.c f.ne X
 let ⟨_,M,_,_,_,A⟩:=lu H.hp H.le k.1 f.c f.ne
 have q:Z s+2<=Z g+d.length:=by
  have B:=Hm H.pos (fx a:Fx p)<|fx dg*fx d;rw[<-u,cO k,cO he]at B;have P:sz (fx dg*fx d:Fx p)+2<=Z g+d.length:=by
   have w:=m.pos;by_cases i:dg=[]
   .rw[i,jM,zero_mul,ko H.pos];omega
   .have y:(fx dg:Fx p)≠0:=λa=>i (tx r (qN H.pos)<|a.trans jM.symm)
    have:=dG H y<|m.jN H;rw[cO r,cO m.c]at this;omega
  omega
 have C:bs p (aU s g p).1:=by
  refine⟨M,?_⟩;by_cases i:s=[]
  .left;refine fB ?_;rw[A,i];simp
  .have z:(fx s:Fx p)≠0:=λa=>i (tx k (qN H.pos)<|a.trans jM.symm)
   let ⟨x,hx,ex⟩:=iW H.pos (fx (aU s g p).1:Fx p);have l:(fx x:Fx p)≠0:=λa=>z (by rw[v,<-ex,a,zero_mul])
   have B:=dG H l<|f.jN H;rw[ex,<-v,cO k,<-ex,cO hx,cO f.c]at B;right;have P:(aU s g p).1.length=Z x:=by rw[A];omega
   have Q:=Z6 ex<|Z x-1;have S:=M<|Z x-1;have W:=hx.1<|Z x-1;rw[gk S.1 S.2,gk W.1 W.2]at Q;rw[P,<-Q];rcases hx.2 with F|F
   .exact absurd (by rw[F,jM]) l
   .exact F
 refine⟨G,r,C,?_,?_⟩
 .rw[A];have w:=m.pos;by_cases i:Z s<=Z g-1
  .omega
  .omega
 .rw[<-v,u,add_comm,kU]
def tL.step(H:bq p){f g r k K n a c}{d}(l:tL p f g r k K d)(j1:1<=d) t(x:ps f=ps k*ps K+PS.K ((p:O)^d)*t)(M:Cg p (ps n) t)
  (l1:Z a<Z g) (P:bs p a) (l2:Z c<r.length) (Q:bs p c) (S:(fx n:Fx p)=fx a*fx r+fx c*fx g):tL p f g r (lA k ((p:O)^d) a) (lA K ((p:O)^d) c) (d+1):=by
 have V:=H.hp.1
 have F:(0:O)<(p:O)^d:=mW G
 have m:(p:O)∣(p:O)^d:=by obtain⟨i,rfl⟩:∃i,d=i+1:=⟨d-1,G⟩;rw[eZ];exact A8 _ _
 have X:=l.Gl
 have o:=l.Kl
 have s:=adr (p:=p) F l.Gr P.1 G
 have D:=adr (p:=p) F l.Kr Q.1 G
 have E:=T5 ((p:O)^d) l.Gm (b:=a) G
 have N:=T5 ((p:O)^d) l.Km (b:=c) G
 have L:=adq k ((p:O)^d) a G
 have s2:=adq K ((p:O)^d) c G
 refine⟨E,by rw[IF,X],by rw[ads G m,l.Gp],λi=>by rw[eZ];exact s i,N,by rw[IF,o],by rw[ads G m,l.Kp],λi=>by rw[eZ];exact D i,?_⟩
 rw[eZ]
 obtain⟨q,eq⟩:∃q,q=(p:O)^d:=⟨_,J⟩
 rw[<-eq]at x L s2 m⊢
 have u:Cg p t (ps a*ps K+ps c*ps k):=by
  refine M.symm.trans ?_;have v:(fx n:Fx p)=fx a*fx K+fx c*fx k:=by rw[S,l.Kp,l.Gp]
  exact mk_eq.1<|show Fx.mk (ps n) (bm.ps p n)=Fx.mk (ps a*ps K+ps c*ps k) (((bm.ps p a).mul<|bm.ps p K).add<|(bm.ps p c).mul<|bm.ps p k)from v
 rw[L,s2]
 have v:(ps k+PS.K q*ps a)*(ps K+PS.K q*ps c)=ps k*ps K+PS.K q*(ps a*ps K+ps c*ps k)+PS.K q*(PS.K q*(ps a*ps c)):=by simp only[PS.mul_add,PS.add_mul];ac_rfl
 rw[v]
 refine Cg.QU λi=>?_
 let ⟨z,Y⟩:=u.dvd i
 let ⟨y,R⟩:=m
 rw[x,PS.eI,PS.eI,PS.eI,PS.eX,PS.eX,PS.eX,PS.eX]
 refine⟨z-y*(ps a*ps c) i,?_⟩
 generalize (ps a*ps K+ps c*ps k) i=A at*
 generalize (ps a*ps c) i=B at*
 generalize t i=W at*
 generalize (ps k*ps K) i=C at*
 have T:W=A+p*z:=G
 rw[T,Dk,nD]
 have U:q*(q*B)=q*p*(y*B):=by
  conv=>lhs;rw[ef q (q*B)]
  rw[R];ac_rfl
 rw[U,iy q (p:O) z]
 omega
end
def aoO{p}{l a}(c:l.Perm a):ig p l=ig p a:=by
 induction c with
 |nil=>rfl
 |cons x _ d=>rw[ig,ig,d]
 |swap x y l=>rw[ig,ig,ig,ig,<-mul_assoc,<-mul_assoc,mul_comm<|pk (fx y.1) _]
 |trans _ _ f h2=>rw[f,h2]
def Bs.perm{p}{F}{l f}(a:Bs p F l)(c:f.Perm l):Bs p F f:=
 ⟨λx g=>a.parts x<|c.mem_iff.1 g,c.symm.pairwise a.ds (λd e=>d e.symm),(aoO c).trans a.prod⟩
def u7{p}(H:bq p){f a}(d:bs p a)(g:bs p f)(c:f≠[]):bs p (aU a f p).2/\(aU a f p).2.length<Z f/\(fx f:Fx p)∣fx (aU a f p).2-fx a:=by let ⟨d1,d2,d3,d4,d5,d6⟩:=lu H.hp H.le d.1 g c;have i:=cQ.2 c;exact⟨d5 d,G,MB H d g c⟩
def NV{p}(H:bq p) f a(n:Y)(lf:Z f<=200)(g:bs p f)(c:f≠[])(L:bs p a)(P:Z a<=200)(Q:n<18446744073709551616):
  al z 251 [I au a,cU n,I au f,cU p] (I au<|gT H f<|pk (fx a) n):=by
 refine aR Tryz.func251 ?_
 have S:=H.hp.1
 have M:=H.le
 have v:bs p [1]:=⟨DF G G,by show can _;exact .inr (T:(1:O)≠0)⟩
 let ⟨q1,W,X⟩:=u7 H v g c
 let ⟨j,o,q⟩:=u7 H L g c
 have t:=rW p H.hp H.le [1] f ay G v g c
 have u:=rW p H.hp H.le a f G G L g c
 refine N J<|w<|rl au [1] J J (rc J J t<|s J<|bD J J u J<|U<|N J ?_)
 refine R<|aY (α:=V O×V O×Y) (λx=>⟨[(2,I au f),(3,cU p),(9,I au x.1),(10,I au x.2.1),(11,cU x.2.2)],[],5,[]⟩) (λx=>bs p x.1/\bs p x.2.1/\Z x.1<Z f/\Z x.2.1<Z f/\x.2.2<18446744073709551616/\(fx f:Fx p)∣fx x.1*pk (fx x.2.1) x.2.2-pk (fx a) n) (λx=>x.2.2) ((aU [1] f p).2,(aU a f p).2,n) ⟨q1,j,W,o,Q,?_⟩ aH ?_
 .have:=pH X<|HW q n;rwa[A1,one_mul]at this
 rintro⟨r,b,m⟩ ⟨t,u,C,lb,hm,hc⟩
 simp only at t u C lb hm hc
 have d:=Ty H (a:=b) (b:=b) g c
 have D:=uy b b p
 have A:=tb b b p G G G G u.1 u.1
 have B:=rW p H.hp H.le (cG b b p) f G G (mH H.pos b b) g c
 refine U<|N J<|y J (λh=>?_)<|λh=>?_
 .have h:0<m:=by have h:(m:O)>0:=aK h;omega
  refine aA<|U<|R<|U<|N J (hp:=aF)<|y J (λi=>?_)<|λi=>?_
  .have i:(m:O).tmod 2=1:=eq_of_beq i;have E:m%2=1:=by rw[show(2:O)=((2:Y):O)from J,lN]at i;omega
   obtain⟨k,rfl⟩:∃k,m=2*k+1:=⟨m/2,G⟩;have l:=Ty H (a:=r) (b:=b) g c;have LG:=uy r b p;have F:=tb r b p G G G G t.1 u.1;have K:=rW p H.hp H.le (cG r b p) f G G (mH H.pos r b) g c;refine bT<|rc J J F<|rc J J K<|s J<|aO ?_;refine bT<|rc J J A<|rc J J B<|s J<|aX<|rt J (hp:=aF)<|aG (u6 p f r b,u6 p f b b,k) ⟨l.1,d.1,l.2.1,d.2.1,by show k<_;omega,?_⟩ (G:k<2*k+1)<|wk ⟨sR J,sR J,sR J,sR J,sE J ?_,e⟩ e
   .show fx f∣fx (u6 p f r b)*pk (fx<|u6 p f b b) k-pk (fx a) n;refine nR (pH l.2.2<|HW d.2.2 k) ?_;rw[tk,mul_assoc,<-wK];have cz:fx b*pk (fx b) (k+k)=(pk (fx b) (2*k+1):Fx p):=by rw[mul_comm,(G:k+k=2*k)];rfl
    rw[cz];exact hc
   .exact bL<|(Ay (2*k+1) hm).trans (G:((((2*k+1)/2:Y)):O)=(k:O))
  .have i:(m:O).tmod 2≠1:=nf i;have Ir:m%2=0:=by rw[show(2:O)=((2:Y):O)from J,lN]at i;omega
   obtain⟨k,rfl⟩:∃k,m=2*k:=⟨m/2,G⟩;refine aA ?_;refine bT<|rc J J A<|rc J J B<|s J<|aX<|rt J (hp:=aF)<|aG (r,u6 p f b b,k) ⟨t,d.1,C,d.2.1,by show k<_;omega,?_⟩ (G:k<2*k)<|wk ⟨sR J,sR J,sR J,sR J,sE J ?_,e⟩ e
   .show fx f∣fx r*pk (fx<|u6 p f b b) k-pk (fx a) n;refine nR (pH (mJ _<|fx r)<|HW d.2.2 k) ?_;rw[tk,<-wK,(G:k+k=2*k)];exact hc
   .exact bL<|(Ay (2*k) hm).trans (G:((((2*k)/2:Y)):O)=(k:O))
 .have h:m=0:=by have h:¬(m:O)>0:=aT h;omega
  subst h;rw[pk,mul_one]at hc;rw[anW H g c t C hc];exact a6<|aO<|N J<|cx J
def xi(a c:V O):V O:=(cc<|max (Z a)<|Z c).map λi=>E a i 0+E c i 0
def adt a c:Z (xi a c)=max (Z a) (Z c):=by simp[xi]
def aoP a d p(F:Z a<=1000)(H:Z d<=1000)(m:0<p)(P:p<=2147483648)(t:rp p a)(u:rp p d):al z 300 [I au a,I au d,cU p] (I au<|aS<|md p<|xi a d):=by
 refine aR Tryz.func300 ?_;generalize hM:max (Z a) (Z d)=M;have v:=adt a d;have g:∀i,i<M->E (xi a d) i 0=E a i 0+E d i 0:=λi x=>by unfold xi;rw[aV,iT,kS G];rfl
 have n:∀i,0<=E (xi a d) i 0:=λi=>by
  by_cases f:i<M
  .rw[g i f];have A:=t i;have h2:=u i;omega
  .rw[eK _ G];exact eO _
 rw[hM]at v;generalize xi a d=L at*;refine N J<|w<|fg au [] J J (s J<|U<|N J ?_);refine R<|aY (α:=Y) (λi=>⟨[(0,I au a),(1,I au d),(2,cU p),(7,.c<|.X 1000000),(8,j i)],[(1000000,.vec 150 au<|h i L)],3,[]⟩) (λi=>i<=M) (λi=>M-i) 0 (be _) aH ?_;intro i x;have C:(h i L).length=i:=bX;by_cases k:i<M
 .refine jk ⟨[(0,I au a),(1,I au d),(2,cU p),(7,.c<|.X 1000000),(8,j i)],[(1000000,.vec 150 au<|h i L)],4,[]⟩ ?_ (λl=>w<|rg 14 J J (λf=>s J<|y J (λ_=>cZ<|dM l aH)<|λh2=>oz)<|λf=>s J<|y J (λ_=>cZ<|dM l aH)<|λh2=>?_)
  .have A:=t i;have h2:=u i;refine U<|R<|bT ?_;refine rc J J (GY a i)<|rc J J (GY d i) ?_;refine rl au [_] J J (ra J J J J J J J J J ?_ ?_<|s J ?_)
   .show(_+1+(_+1)/4+192)*8<=_;omega
   .show(_+1)*1<=_;omega
   refine aX<|rt J<|aG (i+1) k wc<|Wk.trans (wk (st':=⟨[(0,I au a),(1,I au d),(2,cU p),(7,.c<|.X 4009000),(8,j ((i+1:Y):O))],[(4009000,.vec 150 au<|h (i+1) L)],8,[]⟩) (bJ J) ⟨bE J ?_,e⟩)<|Wk.trans (fa 1000000 4009000 J J J) aH;refine a8 (aN.vec 150 au) ?_;rw[qM _ i G,g i k,wrap_u64 _ G G]
  .exfalso;have f:¬(i:O)<(Z a:O):=aT f;have h2:¬(i:O)<(Z d:O):=aT h2;omega
 .have r:i=M:=by omega
  subst r;have B:=wD L p G m G n;rw[iK G];refine U<|w<|rg 14 J J (λf=>?_)<|λf=>?_
  .exfalso;have f:(i:O)<(Z a:O):=aK f;omega
  .refine s J (y J (λh2=>?_)<|λh2=>?_)
   .exfalso;have h2:(i:O)<(Z d:O):=aK h2;omega
   .exact a6<|aO<|c6 1000000 J J J<|bD J J B J<|cx J
def adu f(p:Y)(x:Z f<=1000)(a:0<p)(A:p<=2147483648)(n:rp p f):al z 173 [I au f,cU p] (I au<|aS<|jq p f):=by
 refine aR Tryz.func173 ?_;have B:=Iy p f;have g:=λi(k:i<Z f-1)=>TB p f k
 have l:=wD (jq p f) p G G G<|λi=>(Iz a f i).1;rw[G0 (Iz a f)]at l;generalize jq p f=L at*;refine N J<|w<|fg au [] J J (s J<|U<|N J ?_);refine R<|aY (α:=Y) (λi=>⟨[(0,I au f),(1,cU p),(5,.c<|.X 1000000),(6,j ((i+1:Y):O))],[(1000000,.vec 150 au<|h i L)],3,[]⟩) (λi=>i<=Z f-1) (λi=>Z f-i) 0 (be _) aH ?_;intro i k;have C:(h i L).length=i:=bX;refine U<|N J<|y J (λd=>?_)<|λd=>?_
 .have d:i+1<Z f:=by have d:((i+1:Y):O)<(Z f:O):=aK d;omega
  have r:ae (((i+1:Y):O))=i+1:=bW _;have t:=n<|i+1;refine aA<|U<|R<|bT ?_;refine rl au [_] J J (ra J J J J J J J J J ?_ ?_<|s J ?_) (hp:=aF)
  .show(_+1+(_+1)/4+192)*8<=_;omega
  .show(_+1)*1<=_;omega
  refine aX<|rt J<|aG (i+1) G (G:Z f-(i+1)<Z f-i)<|Wk.trans (wk (st':=⟨[(0,I au f),(1,cU p),(5,.c<|.X 4013000),(6,j ((i+1+1:Y):O))],[(4013000,.vec 150 au<|h (i+1) L)],8,[]⟩) (bJ J) ⟨bE J ?_,e⟩)<|Wk.trans (fa 1000000 4013000 J J J) aH;refine a8 (aN.vec 150 au) ?_;have u:(ax .u64 ((i+1:Y):O)).tmod p=(((i+1)%p:Y):O):=by rw[wrap_u64 _ G G,lN]
  have F:(((i+1)%p:Y):O)<p:=by have:=fb (i+1) a;omega
  have m:0<=E f (i+1) 0*(((i+1)%p:Y):O):=iL t.1 G;have g2:E f (i+1) 0*(((i+1)%p:Y):O)<=2147483648*2147483648:=vj G G G G;have v:(ax .u64<|E f (ae ((i+1:Y):O)) au.aD*(ax .u64 ((i+1:Y):O)).tmod p).tmod p=E L i 0:=by rw[u,r,g i G];show(ax .u64<|E f (i+1) 0*(((i+1)%p:Y):O)).tmod p=_;rw[wrap_u64 _ m G,kf m,ef]
  rw[v,qM _ i G]
 .have d:¬((i+1:Y):O)<(Z f:O):=aT d;rw[iK G];exact a6<|aO<|c6 1000000 J J J<|bD J J l J<|cx J
def jC(p:Y):Y->Y->V O
 |0,_=>[]
 |a+1,n=>if n=0 then[]else((n%p:Y):O)::jC p a (n/p)
def NW p a:jC p a 0=[]:=by cases a<;>rfl
def T6{p:Y}(g:2<=p):∀a n,n<2^a->bs p (jC p a n)/\Z (jC p a n)<=a
 |0,n,_=>⟨qN G,a7 _⟩
 |a+1,n,k=>by
  rw[jC];split
  .exact⟨qN G,be _⟩
  .rename_i m;have d:n/p<2^a:=by have f:n/p<=n/2:=aoQ g T;rw[fF]at k;omega
   let ⟨⟨i1,i2⟩,i3⟩:=T6 g a (n/p) d;refine⟨⟨λi=>?_,?_⟩,bX⟩
   .cases i with
    |zero=>
     have:=fb n (G:0<p)
     show 0<=((n%p:Y):O)/\((n%p:Y):O)<p
     omega
    |succ i=>exact i1 i
   .right;by_cases f:n/p=0
    .rw[f,NW];have:n<p:=by rwa[Nat.div_eq_zero_iff_lt G]at f
     show((n%p:Y):O)≠0;rw[ou this];omega
    .rcases i2 with i2|i2
     .exfalso;have:jC p a (n/p)≠[]:=by
       cases a with
       |zero=>exact absurd d (by rw[py];have:=qF f;omega)
       |succ a=>rw[jC,b f];simp
      exact this i2
     .rw[eB,dE];generalize jC p a (n/p)=l at*;cases l with
      |nil=>exact absurd J i2
      |cons c l=>exact i2
def kX(p:Y):V O->Y
 |[]=>0
 |c::l=>ae c+p*kX p l
def adv{p:Y}(n:0<p):∀(f:Y)(a:V O),Z a<=f->bs p a->jC p f (kX p a)=a
 |f,[],_,_=>NW p f
 |0,c::a,k,_=>by simp at k
 |f+1,c::a,k,g=>by
  have u:0<=c/\c<p:=g.1 0;have r:bs p a/\(a=[]->c≠0):=by
   refine⟨⟨λi=>g.1<|i+1,?_⟩,λe=>?_⟩
   .rcases g.2 with e|e
    .cases e
    .cases a with
     |nil=>exact .inl J
     |cons d a=>exact .inr e
   .subst e;rcases g.2 with e|e
    .cases e
    .exact e
  have l:=adv n f a (by simp at k;omega) r.1;have t:kX p (c::a)%p=ae c:=by rw[kX,Nat.add_mul_mod_self_left,ou G]
  have m:kX p (c::a)/p=kX p a:=by rw[kX,Nat.add_mul_div_left _ _ n,Aq G,eF]
  have v:kX p (c::a)≠0:=λe=>by rw[e,Nat.zero_div]at m;rw[e,Nat.zero_mod]at t;rw[<-m,NW]at l;exact r.2 l.symm G
  rw[jC,b v,t,m,l,ui u.1]
def adw{p:Y}:∀a:V O,(∀i,0<=E a i 0/\E a i 0<(p:O))->kX p a<p^Z a
 |[],_=>by simp[kX]
 |c::a,d=>by
  have k:0<=c/\c<p:=d 0;have f:=adw a λi=>d<|i+1
  have g:=jh p (show kX p a+1<=p^Z a from f);rw[kX,eB,fF,gN<|p^_];rw[yj]at g;omega
def adx{p:Y}(c:O):∀a:V O,kX p (a++[c])=kX p a+p^Z a*ae c
 |[]=>by simp[kX]
 |d::a=>by rw[mc,kX,adx c a,kX,eB,fF,yj];have:p*(p^Z a*ae c)=p^Z a*p*ae c:=fc;omega
def aoR{p}{a}(d:Mon p a):p^(Z a-1)<=kX p a/\kX p a<2*p^(Z a-1):=by
 obtain⟨f,rfl⟩:∃f,a=f++[1]:=⟨a.dropLast,by
  have e:=T2 d.ne;have g:a.getLast d.ne=1:=by have:=d.one;have k:=d.pos;rw[aV,cH G]at this;rw[aoK];exact this
  rw[g]at e;exact e.symm⟩
 have l:=adw (p:=p) f λi=>by
  by_cases h:i<Z f
  .have:=d.c.1 i;rwa[aV,Cj h,<-aV]at this
  .rw[eK _ G];have:=d.c.1 0;omega
 rw[adx,hP,qB,dE];have:ae (1:O)=1:=rfl;rw[this,qD];omega
def aoS(p n:Y)(f:2<=p)(g:p<=2147483648)(r:n<18446744073709551616):al z 286 [cU n,cU p] (I au<|jC p 64 n):=by
 refine aR Tryz.func286 ?_;refine N J<|w<|fg au [] J J (s J<|U<|N J ?_);refine R<|aY (α:=V O×Y) (λx=>⟨[(1,cU p),(5,.c<|.X 1000000),(6,cU x.2)],[(1000000,.vec 150 au x.1)],3,[]⟩) (λx=>Z x.1<=64/\x.2<2^(64-Z x.1)/\jC p 64 n=x.1++jC p (64-Z x.1) x.2) (λx=>x.2) ([],n) ⟨be _,r,J⟩ aH ?_;rintro⟨o,m⟩ ⟨t,h2,a⟩;simp only at t h2 a;have v:m<18446744073709551616:=iz h2<|fT (n:=2) T (G:64-Z o<=64);refine U<|N J<|y J (λh=>?_)<|λh=>?_
 .have h:0<m:=by have h:(m:O)>0:=aK h;omega
  have A:Z o<64:=by
   rcases oV (Z o) 64 with i|i
   .exact i
   .rw[(G:64-Z o=0)]at h2;omega
  obtain⟨k,l⟩:∃k,64-Z o=k+1:=⟨63-Z o,G⟩;have d:m/p<m:=Nat.div_lt_self h f;refine aA<|U<|R<|bT ?_;refine rl au [_] J J (ra J J J J J J J J J ?_ ?_<|s J ?_) (hp:=aF)
  .show(Z o+1+(Z o+1)/4+192)*8<=_;omega
  .show(Z o+1)*1<=_;omega
  refine aX<|rt J (aG (o++[((m%p:Y):O)],m/p) ⟨bX,?_,?_⟩ d<|Wk.trans (wk (st':=⟨[(1,cU p),(5,.c<|.X 4005000),(6,cU ((m/p:Y):O))],[(4005000,.vec 150 au<|o++[((m%p:Y):O)])],8,[]⟩) ⟨sR J,sR J,sE J ?_,e⟩ ⟨bE J ?_,e⟩)<|Wk.trans (fa 1000000 4005000 J J J) aH) (hp:=aF)
  .simp only[hP,qB];rw[l,fF]at h2;rw[(G:64-(Z o+1)=k)];have B:m/p<=m/2:=aoQ f T;omega
  .simp only[hP,qB];rw[a,l,jC,b G,(G:64-(Z o+1)=k),kF];rfl
  .refine bL (show ax .u64 ((m:O).tdiv p)=((m/p:Y):O)from ?_);have u:(0:O)<=((m/p:Y):O):=pO _;rw[<-Int.ofNat_tdiv,wrap_u64 _ u G]
  .show aN.vec 150 au (o++[(m:O).tmod p])=_;rw[lN]
 .have h:m=0:=by have h:¬(m:O)>0:=aT h;omega
  subst h;rw[NW,gO]at a;rw[a];exact a6<|aO<|c6 1000000 J J J<|N J<|cx J
section
variable{p:Y}(H:bq p)
noncomputable def oO(f:V O):Y->V O×V O->V O×V O
 |0,x=>x
 |k+1,x=>let a:=oO f k x;let w:=gT H f<|pk (fx a.2) 2;(aS<|md p<|xi a.1 w,w)
noncomputable def jr(f:V O):Y->V O×V O->V O×V O
 |0,x=>x
 |k+1,x=>let a:=jr f k x;let w:=gT H f<|pk (fx a.2) p;(u6 p f a.1 w,w)
noncomputable def za(t f:V O)(d:Y):V O:=
 let r:=(aU t f p).2
 if p=2 then(oO H f (d-1) (r,r)).1 else aS (fG (gT H f<|pk (fx (jr H f (d-1) (r,r)).1)<|(p-1)/2) [1] p)
variable{f:V O}(hf:bs p f)(ja:f≠[])
include hf ja
def T7{x:V O×V O}(a:bs p x.1)(c:bs p x.2)(d:Z x.1<Z f)(g:Z x.2<Z f):∀k,bs p (oO H f k x).1/\bs p (oO H f k x).2/\(oO H f k x).1.length<Z f/\(oO H f k x).2.length<Z f
 |0=>⟨a,c,d,g⟩
 |k+1=>by let ⟨i1,i2,i3,i4⟩:=T7 a c d g k;let ⟨m1,i,_⟩:=xd H hf ja<|pk (fx (oO H f k x).2) 2;have l:=oB<|md p<|xi (oO H f k x).1<|gT H f<|pk (fx (oO H f k x).2) 2;rw[wC,adt]at l;exact⟨km H.pos<|AE H.pos _,m1,by show Z (aS _)<_;omega,i⟩
def aoT{x:V O×V O}(c:bs p x.1)(d:bs p x.2)(g:Z x.1<Z f)(i:Z x.2<Z f):∀k,bs p (jr H f k x).1/\bs p (jr H f k x).2/\(jr H f k x).1.length<Z f/\(jr H f k x).2.length<Z f
 |0=>⟨c,d,g,i⟩
 |k+1=>by let ⟨m1,l,_⟩:=xd H hf ja<|pk (fx (jr H f k x).2) p;let ⟨m,n,_⟩:=Ty H (a:=(jr H f k x).1) (b:=gT H f<|pk (fx (jr H f k x).2) p) hf ja;exact⟨m,m1,n,l⟩
def ady{t:V O}(g:bs p t)(d:Y):bs p (za H t f d)/\Z (za H t f d)<=Z f:=by
 let ⟨r1,a,_⟩:=u7 H g hf ja;unfold za;split
 .let ⟨i1,_,i3,_⟩:=T7 H hf ja (x:=((aU t f p).2,(aU t f p).2)) r1 r1 a a<|d-1;exact⟨i1,BO i3⟩
 .have c:=oB<|fG (gT H f<|pk (fx (jr H f (d-1) ((aU t f p).2,(aU t f p).2)).1)<|(p-1)/2) [1] p;have i:=(xd H hf ja<|pk (fx (jr H f (d-1) ((aU t f p).2,(aU t f p).2)).1)<|(p-1)/2).2.1;rw[Lz,qB]at c;exact⟨km H.pos<|AF H.pos _ _,cj c G⟩
def aoU{t:V O}(B:bs p t)(lt:Z t<=200)(m:Z f<=200)(d:Y)(d1:1<=d)(d2:d<=1000):al z 287 [I au t,j d,I au f,cU p] (I au<|za H t f d):=by
 refine aR Tryz.func287 ?_;have L:=H.hp.1;have C:=H.le;have M:=cQ.2 ja;let ⟨r1,l,_⟩:=u7 H B hf ja;have F:=rW p H.hp H.le t f G G B hf ja;obtain⟨k,rfl⟩:∃k,d=k+1:=⟨d-1,G⟩;unfold za;rw[dE];have P:=λk=>T7 H hf ja (x:=((aU t f p).2,(aU t f p).2)) r1 r1 l l k
 have Q:=λk=>aoT H hf ja (x:=((aU t f p).2,(aU t f p).2)) r1 r1 l l k
 generalize (aU t f p).2=r at*;refine N J<|U<|N J<|y J (λh=>?_)<|λh=>aA ?_
 .have h:(p:O)=2:=eq_of_beq h;rw[aq G];refine bD J J F J<|N J<|U<|N J ?_;refine R<|aY (α:=Y) (λi=>⟨[(1,j ((k+1:Y):O)),(2,I au f),(3,cU p),(9,I au (oO H f i (r,r)).1),(10,I au (oO H f i (r,r)).2),(11,j ((i+1:Y):O))],[],6,[]⟩) (λi=>i<=k) (λi=>k-i) 0 (be _) aH ?_;intro i S;let ⟨c,g,W,X⟩:=P i;refine U (N J<|y J (λh=>?_)<|λh=>?_)
  .have h:((i+1:Y):O)<((k+1:Y):O):=aK h;have a:=NV H f (oO H f i (r,r)).2 2 m hf ja g G T;let ⟨m1,K,_⟩:=xd H hf ja<|pk (fx (oO H f i (r,r)).2) 2;have n:=aoP (oO H f i (r,r)).1 (gT H f<|pk (fx (oO H f i (r,r)).2) 2) p G G H.pos G c.1 m1.1;refine aA<|U<|R<|bD J J a J<|bT<|rc J J n<|s J<|aX<|rt J (hp:=aF)<|aG (i+1) G LN aH
  .have h:¬((i+1:Y):O)<((k+1:Y):O):=aT h;have e:i=k:=G;subst e;exact a6<|aO<|N J<|bI<|cA<|atR J
 .have h:(p:O)≠2:=nf h;rw[b G];refine bD J J F J<|N J<|U<|N J ?_;refine R<|aY (α:=Y) (λi=>⟨[(1,j ((k+1:Y):O)),(2,I au f),(3,cU p),(12,I au (jr H f i (r,r)).1),(13,I au (jr H f i (r,r)).2),(14,j ((i+1:Y):O))],[],6,[]⟩) (λi=>i<=k) (λi=>k-i) 0 (be _) aH ?_;intro i S;let ⟨c,g,W,X⟩:=Q i;refine U (N J<|y J (λh=>?_)<|λh=>?_)
  .have h:((i+1:Y):O)<((k+1:Y):O):=aK h;have a:=NV H f (jr H f i (r,r)).2 p m hf ja g G G;let ⟨m1,K,_⟩:=xd H hf ja<|pk (fx (jr H f i (r,r)).2) p;have u:=tb (jr H f i (r,r)).1 (gT H f<|pk (fx (jr H f i (r,r)).2) p) p G G G G c.1 m1.1;have o:=uy (jr H f i (r,r)).1 (gT H f<|pk (fx (jr H f i (r,r)).2) p) p;have v:=rW p H.hp H.le (cG (jr H f i (r,r)).1 (gT H f<|pk (fx (jr H f i (r,r)).2) p) p) f G G (mH H.pos _ _) hf ja;refine aA<|U<|R<|bD J J a J<|bT<|rc J J u<|rc J J v<|s J<|aX<|rt J (hp:=aF)<|aG (i+1) G LN aH
  .have h:¬((i+1:Y):O)<((k+1:Y):O):=aT h;have e:i=k:=G;subst e;have g:ax .u64 ((ax .u64<|(p:O)-1).tdiv 2)=(((p-1)/2:Y):O):=by have c:ax .u64 ((p:O)-1)=(p:O)-1:=wrap_u64 _ G G;rw[c,(G:(p:O)-1=((p-1:Y):O))];exact Ay (p-1) G
   have a:al z 251 [I au (jr H f i (r,r)).1,cU<|ax .u64<|(ax .u64<|(p:O)-1).tdiv 2,I au f,cU p] (I au<|gT H f<|pk (fx (jr H f i (r,r)).1)<|(p-1)/2):=by rw[g];exact NV H f _ _ m hf ja c G G
   let ⟨m1,K,_⟩:=xd H hf ja<|pk (fx (jr H f i (r,r)).1)<|(p-1)/2;have A:=G3 (gT H f<|pk (fx (jr H f i (r,r)).1)<|(p-1)/2) [1] p G ay G G m1.1 (DF G G);refine a6<|aO ?_;exact w<|rc J J a<|rl au [1] J J (rc J J A<|s J<|cx J)
end
section
variable{p:Y}(H:bq p)
noncomputable def gE(f:V O)(d n:Y):V O:=
 let g:=fH p f (aU (jC p 64 n) f p).2
 if Z g=1\/Z g=Z f then fH p f (za H (jC p 64 n) f d)else g
variable{f:V O}{d:Y}
def adz(a:Mon p f){n:Y}(g:n<18446744073709551616):Mon p (gE H f d n)/\(fx (gE H f d n):Fx p)∣fx f:=by
 let ⟨t1,t2⟩:=T6 H.hp.1 64 n g;let ⟨r1,m,_⟩:=u7 H t1 a.c a.ne;let ⟨m1,i,_⟩:=yG H a.c r1 a.ne;let ⟨k,l,_⟩:=yG H a.c (ady H a.c a.ne t1 d).1 a.ne;unfold gE;dsimp only;split
 .exact⟨k,l⟩
 .exact⟨m1,i⟩
def aoV(a:q9 p f d)(r:1<=d)(L:2*p^d<=18446744073709551616)(M:d+1<Z f):∃n,(p<=n/\n<18446744073709551616/\1<Z (gE H f d n)/\Z (gE H f d n)<Z f)/\∀k,k<n->¬(p<=k/\k<18446744073709551616/\1<Z (gE H f d k)/\Z (gE H f d k)<Z f):=by
 refine T1 ?_;let ⟨q,q1,P,t,u⟩:=a.ex H G;let ⟨v1,v2⟩:=aoR q1;rw[u,dE]at v1 v2;have g:=H.hp.1;have v:p<=p^d:=by have:=fT (G:0<p) r;rwa[Nat.pow_one]at this
 have m:d<64:=by
  have Q:2^d<=p^d:=AY g d;rcases oV d 64 with e|e
  .exact e
  .have S:2^64<=2^d:=fT T e;omega
 have i:=adv (p:=p) G 64 q G q1.c;have l:(aU q f p).2=q:=by unfold aU;rw[aq G]
 let ⟨m1,W,x,U,V,A⟩:=yG H a.aL.c q1.c a.aL.ne;have B:Z (fH p f q)=d+1:=by
  have C:(fx q:Fx p)∣fx (fH p f q):=by rw[A];exact dvd_add (dV t U)<|dvd_mul_left _ _
  have F:=jy H C<|m1.jN H;have K:=jy H x<|q1.jN H;rw[cO m1.c,cO q1.c]at F K;omega
 have e:gE H f d (kX p q)=fH p f q:=by unfold gE;rw[i,l,b G]
 exact⟨kX p q,G,G,by rw[e];omega,by rw[e];omega⟩
include H in
def T8(B:1<=d)(d2:d<=1000)(hd:2*p^d<=18446744073709551616):∀(W:Y)(f:V O),Z f<W->Z f<=200->q9 p f d->2<=Z f->∃l,tJ p f l/\Z l+1<=Z f/\nO z 253 [I au f,j d,cU p] 167 (.sl au) l
 |0,_,h,_,_,_=>by omega
 |W+1,f,hN,lf,h,h2=>by
  have F:=H.hp.1;have C:=H.le;by_cases X:Z f<=d+1
  .refine⟨[f],⟨λg o=>?_,by rw[gU,gU,mul_one]⟩,bX,?_⟩
   .have t:=gI.1 o;subst t;exact⟨h.aL,h2,h.fW H h2 X B⟩
   .refine Gd Tryz.func253 J J J J T ?_;refine N J (U<|N J<|y J (λh=>?_)<|λh=>?_)
    .exact w<|fg (.sl au) [f] J J (s J<|bI<|cA<|Gc (id:=2001000) cq J J)
    .exfalso;have h:¬(Z f:O)-1<=(d:O):=aT h;omega
  .let ⟨i,⟨n1,n2,n3,n4⟩,K⟩:=aoV H h B hd G;let ⟨E,g2⟩:=adz H (d:=d) h.aL n2;let ⟨a1,a2⟩:=h.parts H E g2;let ⟨q1,q2,q3,q4⟩:=sf H h.aL E g2;let ⟨l1,o1,m1,k1⟩:=T8 B d2 hd W _ G G a1 G;let ⟨l2,o2,m2,k2⟩:=T8 B d2 hd W _ G G a2 G;refine⟨l1++l2,o1.app o2 q2,by rw[hP];omega,?_⟩;refine Gd Tryz.func253 J J J J T ?_;refine N J (U<|N J<|y J (λq=>?_)<|λq=>aA ?_)
   .exfalso;have q:(Z f:O)-1<=(d:O):=aK q;omega
   refine N J<|R<|aY (α:=Y) (λn=>⟨[(0,I au f),(1,j d),(2,cU p),(7,cU n)],[],4,[]⟩) (λn=>p<=n/\n<=i) (λn=>i-n) p ⟨a7 _,n1⟩ aH ?_;rintro n ⟨b1,b2⟩;let ⟨t1,t2⟩:=T6 F 64 n (by omega:n<18446744073709551616);let ⟨r1,r2,_⟩:=u7 H t1 h.aL.c h.aL.ne;have L:=aoS p n F C G;have M:=rW p H.hp H.le (jC p 64 n) f G G t1 h.aL.c h.aL.ne;have P:=DG p H.hp H.le f (aU (jC p 64 n) f p).2 G G h.aL.c r1;let ⟨s1,s2⟩:=ady H h.aL.c h.aL.ne t1 d;have m:=aoU H h.aL.c h.aL.ne t1 G lf d B d2;have k:=DG p H.hp H.le f (za H (jC p 64 n) f d) G G h.aL.c s1;have x:gE H f d n=if Z (fH p f (aU (jC p 64 n) f p).2)=1\/Z (fH p f (aU (jC p 64 n) f p).2)=Z f then fH p f (za H (jC p 64 n) f d)else fH p f (aU (jC p 64 n) f p).2:=rfl
   generalize fH p f (aU (jC p 64 n) f p).2=g at*;refine U<|R<|bD J J L J<|w<|rc J J M<|rc J J P<|s J ?_;refine jk ⟨[(0,I au f),(1,j d),(2,cU p),(7,cU n),(9,I au<|gE H f d n)],[],9,[]⟩ ?_<|λu=>w<|rg 33 J J (λQ=>?_)<|λQ=>?_
   .let ⟨c1,c2⟩:=adz H (d:=d) h.aL (G:n<18446744073709551616);have cl:=(sf H h.aL c1 c2).2.2.2;have next:¬(1<Z (gE H f d n)/\Z (gE H f d n)<Z f)->n+1<=i:=λv=>by
     rcases oV n i with t|t
     .exact t
     .have D:n=i:=by omega
      rw[D]at v;exact absurd ⟨n3,n4⟩ v
    have yes:1<Z (gE H f d n)/\Z (gE H f d n)<Z f->n=i:=λv=>by
     rcases oV n i with t|t
     .exact absurd ⟨b1,G,v.1,v.2⟩<|K n t
     .omega
    generalize o:gE H f d n=A at*;refine w<|rg 51 J J (λa=>s J<|y J (λr=>?_)<|λr=>cZ<|aX ?_)<|λa=>s J<|y J (λr=>by cases r)<|λr=>cZ<|aX ?_
    .have a:(Z A:O)>1:=aK a;have r:(Z A:O)<(Z f:O):=aK r;have D:=yes ⟨G,G⟩;subst D;rw[o]at k1 k2;have S:=yk p H.hp H.le f A G G h.aL.c c1.c c1.ne;rw[ux (Sd H h.aL c1 cl).c.2]at S;refine w (Ai J J k1<|rc J J S<|rc J J k2.fs<|ra J J J J J J J J J ?_ ?_<|s J<|bI<|jJ<|cA<|kd<|jJ<|Gc (id:=10012000) cq J J)
     .show(_+_+(_+_)/4+192)*24<=_;omega
     .show(_+_)*1<=_;omega
    .have a:(Z A:O)>1:=aK a;have r:¬(Z A:O)<(Z f:O):=aT r;refine rt J (hp:=aF)<|aG (n+1) ⟨G,next λv=>G⟩ (G:i-(n+1)<i-n)<|wk ⟨sR J,sR J,sR J,sE J ?_,e⟩ e;exact bL<|wrap_u64 _ G G
    .have a:¬(Z A:O)>1:=aT a;refine rt J (hp:=aF)<|aG (n+1) ⟨G,next λv=>G⟩ (G:i-(n+1)<i-n)<|wk ⟨sR J,sR J,sR J,sE J ?_,e⟩ e;exact bL<|wrap_u64 _ G G
   .have Q:(Z g:O)=1:=eq_of_beq Q;rw[aq G]at x;refine s J<|y J (λ_=>bT<|rc J J m<|rc J J k<|s J<|dM u<|wk ⟨sR J,sR J,sR J,sR J,sE J ?_,e⟩ e)<|λh=>er;rw[x]
   .have Q:(Z g:O)≠1:=nf Q;refine s J (y J (λa=>?_)<|λa=>?_)
    .have a:(Z g:O)=(Z f:O):=eq_of_beq a;rw[aq G]at x;refine bT<|rc J J m<|rc J J k<|s J<|dM u<|wk ⟨sR J,sR J,sR J,sR J,sE J ?_,e⟩ e;rw[x]
    .have a:(Z g:O)≠(Z f:O):=nf a;rw[b G]at x;refine cZ<|dM u<|wk ⟨sR J,sR J,sR J,sR J,sE J ?_,e⟩ e;rw[x]
end
section
variable{p:Y}(H:bq p)
open Classical in
noncomputable def oP(p:Y)(f:V O)(d:Y):V (V O):=if h:∃l,tJ p f l/\Z l+1<=Z f/\nO z 253 [I au f,j d,cU p] 167 (.sl au) l then Classical.choose h else[]
include H in
def adA{f:V O}{d:Y}(c:1<=d)(g:d<=1000)(i:2*p^d<=18446744073709551616)(k:Z f<=200)(l:q9 p f d)(m:2<=Z f):tJ p f (oP p f d)/\Z (oP p f d)+1<=Z f/\nO z 253 [I au f,j d,cU p] 167 (.sl au) (oP p f d):=by have a:=T8 H c g i _ f (dL _) k l m;unfold oP;rw[dif_pos a];exact uC a
structure ma where
 f:V O
 h:V O
 d:Y
 o:V (V O)
noncomputable def ma.w(x:ma):V O:=gT H x.f<|pk (fx x.h) p
noncomputable def ma.g(x:ma):V O:=fH p x.f<|aS<|fG (x.w H) [0,1] p
noncomputable def ma.q(x:ma):V O:=(aU x.f (x.g H) p).1
noncomputable def ma.next(x:ma):ma:=
 if 1<(x.g H).length then⟨x.q H,if 1<Z (x.q H)then(aU (x.w H) (x.q H) p).2 else x.w H,x.d+1,x.o++oP p (x.g H) x.d⟩else⟨x.f,x.w H,x.d+1,x.o⟩
noncomputable def xj:Y->ma->V (V O)
 |0,x=>x.o
 |a+1,x=>if Z x.f<=1 then x.o else if Z x.f<=2*x.d then x.o++[x.f]else xj a (x.next H)
structure nA(p:Y)(F:V O)(x:ma):Prop where
 dg:Bv p x.f x.d
 d1:1<=x.d
 hc:bs p x.h
 hl:x.h.length<=200
 hx:(fx x.f:Fx p)∣fx x.h-pk X (p^(x.d-1))
 pt:∀g∈x.o,Mon p g/\2<=g.length/\br (fx g:Fx p)
 pr:(fx F:Fx p)=gU p x.o*fx x.f
 fl:x.f.length<=F.length
 F2:F.length<=200
 Fm:Mon p F
def adB(H:bq p):bs p [0,1]:=⟨λi=>match i with
  |0=>⟨eO _,H.pos⟩
  |1=>by have:=H.hp.1;show 0<=(1:O)/\(1:O)<p;omega
  |i+2=>⟨eO _,H.pos⟩,.inr (T:(1:O)≠0)⟩
def adC:(fx [0,1]:Fx p)=X:=by rw[HX,nP,zero_add,A1,mul_one]
include H in
def nA.start{F:V O}(c:Mon p F)(d:pQ (fx F:Fx p))(a:Z F<=200):nA p F ⟨F,[0,1],1,[]⟩ where
 dg:=⟨c,d,λQ f _=>f.1⟩
 d1:=a7 _
 hc:=adB H
 hl:=ay
 hx:=by rw[adC,mr,py,qQ];exact mJ _ _
 pt:=λg i=>by cases i
 pr:=by rw[gU,one_mul]
 fl:=a7 _
 F2:=a
 Fm:=c
variable{F:V O}{x:ma}
include H in
def nA.ol(a:nA p F x):Z x.o+Z x.f<=Z F:=by
 let ⟨i,h2⟩:=Tz H (l:=x.o) λg d=>⟨(a.pt g d).1,(a.pt g d).2.1⟩
 have:=dG H i<|a.dg.aL.jN H;rw[<-a.pr,cO a.Fm.c,cO a.dg.aL.c]at this;omega
def nA.w(a:nA p F x):bs p (x.w H)/\(x.w H).length<Z x.f/\(fx x.f:Fx p)∣fx (x.w H)-pk X (p^x.d):=by let ⟨m1,i,l⟩:=xd H a.dg.aL.c a.dg.aL.ne<|pk (fx x.h) p;refine⟨m1,i,nR l ?_⟩;have h:=HW a.hx p;obtain⟨k,g⟩:∃k,x.d=k+1:=⟨x.d-1,by have:=a.d1;omega⟩;rw[<-tj,g,dE,<-fF]at h;rw[g];exact h
def nA.g(a:nA p F x):q9 p (x.g H) x.d/\Bv p (x.q H) (x.d+1)/\(fx (x.g H):Fx p)∣fx x.f:=by let ⟨i,k,c⟩:=a.w H;refine a.dg.step H a.d1 (km H.pos<|AF H.pos _ _) c ?_;rw[Sb,adC]
def nA.next(a:nA p F x)(W:¬Z x.f<=2*x.d)(m:2*p^x.d<=18446744073709551616):nA p F (x.next H)/\(x.next H).d=x.d+1:=by
 obtain⟨i,b,v⟩:=a.w H;obtain⟨k,g2,K⟩:=a.g H;have A:=a.F2;have h:=a.fl;obtain⟨q1,q2,L,j⟩:=sf H a.dg.aL k.aL K;have s:=k.aL.pos;unfold ma.next;split
 .rename_i B;obtain⟨C,y,z⟩:=adA H a.d1 G m G k B;have n:(fx F:Fx p)=gU p (x.o++oP p (x.g H) x.d)*fx (x.q H):=by rw[Ix,C.prod,a.pr,q2,mul_assoc,mul_comm<|fx<|x.g H];rfl
  have r:∀g∈x.o++oP p (x.g H) x.d,Mon p g/\2<=Z g/\br (fx g:Fx p):=λg M=>(bg.1 M).elim (a.pt g)<|C.parts g
  have P:Z (x.q H)+(x.g H).length=Z x.f+1:=L;have l:(fx (x.q H):Fx p)∣fx (x.w H)-pk X (p^x.d):=dvd_trans NK v;refine⟨⟨g2,NX<|be _,?_,?_,?_,r,n,by show Z (x.q H)<=_;omega,A,a.Fm⟩,J⟩
  .dsimp only;split
   .exact(u7 H i g2.aL.c g2.aL.ne).1
   .exact i
  .dsimp only;split
   .have:=(u7 H i g2.aL.c g2.aL.ne).2.1;omega
   .omega
  .dsimp only;rw[dE];split
   .exact nR (u7 H i g2.aL.c g2.aL.ne).2.2 l
   .exact l
 .rename_i B;have t:(x.g H).length=1:=G;have S:sz (fx (x.g H):Fx p)=1:=by rw[cO k.aL.c,t]
  refine⟨⟨⟨a.dg.aL,a.dg.kV,λQ u m=>g2.low Q u ?_⟩,NX<|be _,i,by show(x.w H).length<=_;omega,?_,a.pt,a.pr,a.fl,A,a.Fm⟩,J⟩
  .rw[show(fx x.f:Fx p)=fx (x.q H)*fx (x.g H)from q2]at m;rcases u.nU H m with e|e
   .exact e
   .have:=jy H e<|k.aL.jN H;have:=u.1;omega
  .show(fx x.f:Fx p)∣fx (x.w H)-pk X (p^(x.d+1-1));rw[dE];exact v
def adD(r:∀d,2*d<Z F->2*p^d<=18446744073709551616):∀(k:Y)(x:ma),nA p F x->Z x.f<x.d+k->tJ p F (xj H k x)
 |k,x,a,S=>by
  have i:Z x.f<=1->tJ p F x.o:=λl=>by
   refine⟨a.pt,?_⟩;have t:=a.dg.aL;have m:=t.one;have v:=t.pos;have A:(fx x.f:Fx p)=1:=by
    rw[<-A1];congr 1;generalize x.f=B at*;match B,l,v,m with
    |[c],_,_,m=>rw[show c=1 from m]
   rw[a.pr,A,mul_one]
  cases k with
  |zero=>
   refine i<|eQ λl=>?_
   let ⟨Q,q1,u⟩:=rY H _ (fx x.f:Fx p) (dL _) (by rw[cO a.dg.aL.c];omega)
   have W:=a.dg.low Q q1 u
   have C:=jy H u<|a.dg.aL.jN H
   rw[cO a.dg.aL.c]at C
   omega
  |succ k=>
   rw[xj]
   split
   .rename_i l;exact i l
   .rename_i l;split
    .rename_i n;refine⟨λg K=>?_,?_⟩
     .rcases bg.1 K with e|e
      .exact a.pt g e
      .rw[gI.1 e];exact⟨a.dg.aL,G,a.dg.fW H G n⟩
     .rw[Ix,a.pr];show _*(_*_)=_;rw[gU,mul_one]
    .rename_i n;have X:=a.fl;let ⟨L,b⟩:=a.next H n<|r _ G;refine adD r k _ L ?_;have h:(x.next H).f.length<=Z x.f:=by
      unfold ma.next;split
      .let ⟨M,_,P⟩:=a.g H;have:Z (x.q H)+(x.g H).length=Z x.f+1:=(sf H a.dg.aL M.aL P).2.2.1;show Z (x.q H)<=_;omega
      .exact a7 _
     omega
include H in
def nA.dlt(a:nA p F x)(k:1<Z x.f):x.d<Z x.f:=by let ⟨Q,q1,g⟩:=rY H _ (fx x.f:Fx p) (dL _) (by rw[cO a.dg.aL.c];omega);have l:=a.dg.low Q q1 g;have i:=jy H g<|a.dg.aL.jN H;rw[cO a.dg.aL.c]at i;omega
def aoX(hF:Mon p F)(hs:pQ (fx F:Fx p))(t:Z F<=200)(L:∀d,2*d<Z F->2*p^d<=18446744073709551616):al z 205 [I au F,cU p] (I (.sl au)<|xj H (Z F) ⟨F,[0,1],1,[]⟩):=by
 refine aR Tryz.func205 ?_;have IG:=H.hp.1;have V:=H.le;have I0:=nA.start H hF hs t;generalize hR:xj H (Z F) ⟨F,[0,1],1,[]⟩=nJ at*;refine N J<|w<|fg (.sl au) [] J J (s J<|w<|rl au [0,1] J J (s J<|N J<|U<|N J ?_));refine R<|aY (α:=Y×ma) (λl=>⟨[(0,I au l.2.f),(1,cU p),(5,.c<|.X 1000000),(6,I au [0,1]),(7,I au l.2.h),(8,j l.2.d)],[(1000000,.vec 167 (.sl au) l.2.o)],5,[]⟩) (λl=>nA p F l.2/\Z l.2.f<l.2.d+l.1/\xj H l.1 l.2=nJ) (λl=>l.1) (Z F,⟨F,[0,1],1,[]⟩) ⟨I0,(G:Z F<1+Z F),hR⟩ aH ?_;rintro⟨P,x⟩ ⟨i,hN,a⟩;simp only at i hN a;have ol:=i.ol H;have d1:=i.d1;have fl:=i.fl;refine U<|N J<|y J (λh=>?_)<|λh=>?_
 .have h:1<Z x.f:=by have h:(Z x.f:O)>1:=aK h;omega
  have hdl:=i.dlt H h;obtain⟨M,rfl⟩:∃M,P=M+1:=⟨P-1,G⟩;rw[xj,b G]at a;refine aA<|U<|R<|U<|N J (hp:=aF)<|y J (λu=>?_)<|λu=>cZ<|aO ?_
  .have u:2*(x.d:O)>=(Z x.f:O):=aK u;rw[aq G]at a;refine w (rl (.sl au) [x.f] J J (ra J J J J J J J J J ?_ ?_<|s J<|c6 7003000 J J J<|bI ?_))
   .show(Z x.o+1+(Z x.o+1)/4+192)*24<=_;omega
   .show(Z x.o+1)*1<=_;omega
   repeat(first|refine cA ?_|refine jJ ?_|refine kd ?_)
   rw[<-a];exact dR J J
  .have u:¬2*(x.d:O)>=(Z x.f:O):=aT u;rw[b G]at a;have L:=L x.d G;let ⟨w1,w2,w3⟩:=i.w H;let ⟨Q,g2,g3⟩:=i.g H;let ⟨m,n2⟩:=i.next H G L;let ⟨q1,q2,q3,q4⟩:=sf H i.dg.aL Q.aL g3;have k:(x.next H).f.length<(x.next H).d+M:=by
    rw[n2];have hq:(x.next H).f.length<=Z x.f:=by
     unfold ma.next;split
     .have:Z (x.q H)+(x.g H).length=Z x.f+1:=q3;show Z (x.q H)<=_;omega
     .exact a7 _
    omega
   have v:=NV H x.f x.h p G i.dg.aL.c i.dg.aL.ne i.hc i.hl G;have S:=G3 (x.w H) [0,1] p G ay G G w1.1 (adB H).1;have A:=oB<|fG (x.w H) [0,1] p;rw[Lz]at A;have B:=DG p H.hp H.le x.f (aS<|fG (x.w H) [0,1] p) G (by simp at A;omega) i.dg.aL.c<|km H.pos<|AF H.pos _ _;have n:=yk p H.hp H.le x.f (x.g H) G G i.dg.aL.c Q.aL.c Q.aL.ne;rw[ux q1.c.2]at n;have W:gT H x.f (pk (fx x.h) p)=x.w H:=rfl;have D:fH p x.f (aS<|fG (x.w H) [0,1] p)=x.g H:=rfl;have E:(aU x.f (x.g H) p).1=x.q H:=rfl;rw[W]at v;rw[D]at B;rw[E]at n q3;refine bD J J v J<|w<|rc J J S<|rc J J B<|s J<|N J<|y J (λC=>?_)<|λC=>?_
   .have C:((x.g H).length:O)>1:=aK C;let ⟨e1,e2,e3⟩:=adA H d1 G L G Q G;have r:x.next H=⟨x.q H,if 1<Z (x.q H)then(aU (x.w H) (x.q H) p).2 else x.w H,x.d+1,x.o++oP p (x.g H) x.d⟩:=by unfold ma.next;rw[aq G]
    rw[r]at a m k;refine w<|rc J J e3.fs<|ra J J J J J J J J J ?_ ?_<|s J<|bD J J n J<|N J<|y J (λK=>?_)<|λK=>?_
    .show(Z x.o+Z (oP p (x.g H) x.d)+(Z x.o+Z (oP p (x.g H) x.d))/4+192)*24<=_;omega
    .show(Z x.o+Z (oP p (x.g H) x.d))*1<=_;omega
    .have K:(Z (x.q H):O)>1:=aK K;rw[aq G]at a m k;have T:=rW p H.hp H.le (x.w H) (x.q H) G G w1 g2.aL.c g2.aL.ne;refine bT<|rc J J T<|s J<|eH<|aO<|rt J (hp:=aF)<|aG (M,⟨x.q H,(aU (x.w H) (x.q H) p).2,x.d+1,x.o++oP p (x.g H) x.d⟩) ⟨m,k,a⟩ (dL M)<|Wk.trans (wk (st':=⟨[(0,I au<|x.q H),(1,cU p),(5,.c<|.X 10005000),(6,I au [0,1]),(7,I au (aU (x.w H) (x.q H) p).2),(8,j ((x.d+1:Y):O))],[(10005000,.vec 167 (.sl au)<|x.o++oP p (x.g H) x.d)],16,[]⟩) (bJ J) ⟨bR J,e⟩)<|Wk.trans (fa 1000000 10005000 J J J) aH
    .have K:¬(Z (x.q H):O)>1:=aT K;rw[b G]at a m k;refine cZ<|eH<|aO<|rt J (hp:=aF)<|aG (M,⟨x.q H,x.w H,x.d+1,x.o++oP p (x.g H) x.d⟩) ⟨m,k,a⟩ (dL M)<|Wk.trans (wk (st':=⟨[(0,I au<|x.q H),(1,cU p),(5,.c<|.X 10005000),(6,I au [0,1]),(7,I au<|x.w H),(8,j ((x.d+1:Y):O))],[(10005000,.vec 167 (.sl au)<|x.o++oP p (x.g H) x.d)],16,[]⟩) (bJ J) ⟨bR J,e⟩)<|Wk.trans (fa 1000000 10005000 J J J) aH
   .have C:¬((x.g H).length:O)>1:=aT C;have r:x.next H=⟨x.f,x.w H,x.d+1,x.o⟩:=by unfold ma.next;rw[b G]
    rw[r]at a m k;exact cZ<|aX<|rt J (hp:=aF)<|aG (M,⟨x.f,x.w H,x.d+1,x.o⟩) ⟨m,k,a⟩ (dL M) aH
 .have h:¬(Z x.f:O)>1:=aT h;have a:x.o=nJ:=by
   cases P with
   |zero=>exact a
   |succ P=>rwa[xj,aq G]at a
  refine a6<|aO<|c6 1000000 J J J<|N J<|bI ?_;rw[<-a];exact dR J J
end
def aoY(a c:V O)(l:Z a<=1000)(m:Z c<=1000):al z 254 [I au a,I au c] (cB<|decide<|q8 a c<0):=by
 refine aR Tryz.func254 ?_;refine N J<|U<|N J<|y J (λh=>?_)<|λh=>aA ?_
 .have h:=ye h;refine N J<|bI<|cA<|dR J<|a8 cB ?_;rw[q8,aq G,oL];refine decide_eq_decide.2 ⟨λg=>by rw[aq g];decide,λg=>?_⟩;split at g
  .assumption
  .split at g<;>omega
 .have h:(Z a:O)=(Z c:O):=wy h;rw[show q8 a c=Bt a c (Z a)by rw[q8,b G]];refine U<|N J ?_;refine R<|aY (α:=Y) (λk=>⟨[(0,I au a),(1,I au c),(5,cI<|(k:O)-1)],[],4,[]⟩) (λk=>k<=Z a/\Bt a c (Z a)=Bt a c k) (λk=>k) (Z a) ⟨a7 _,J⟩ aH ?_;rintro k ⟨n,hc⟩;refine U (N J<|y J (λd=>?_)<|λd=>?_)
  .have d:0<k:=by have d:(k:O)-1>=0:=aK d;omega
   obtain⟨j,rfl⟩:∃j,k=j+1:=⟨k-1,G⟩;have i:ae (((j+1:Y):O)-1)=j:=G;refine aA<|U<|R<|N J (hp:=aF)<|y J (λf=>?_)<|λf=>cZ<|aX ?_
   .have f:E a (ae<|((j+1:Y):O)-1) 0≠E c (ae<|((j+1:Y):O)-1) 0:=ye f;rw[i]at f;refine N J (hp:=aF)<|bI ?_;repeat(first|refine cA ?_|refine jJ ?_|refine kd ?_)
    refine dR J ?_;show cB (decide<|List.getD a (ae<|((j+1:Y):O)-1) 0<E c (ae<|((j+1:Y):O)-1) 0)=_;rw[i,hc,Bt];refine a8 cB<|decide_eq_decide.2 ?_;unfold oL;split
    .rw[aq T];exact⟨λ_=>T,λ_=>by assumption⟩
    .rw[aq (G:E a j 0>E c j 0),aq T];exact⟨λg=>G,λg=>G⟩
   .have f:E a (ae<|((j+1:Y):O)-1) 0=E c (ae<|((j+1:Y):O)-1) 0:=wy f;rw[i]at f;refine rt J (hp:=aF) (aG j ⟨G,?_⟩ rQ<|wk ⟨sR J,sR J,sE J ?_,e⟩ e)
    .rw[hc,Bt,b];unfold oL;rw[b G,b G];decide
    .exact im (G:((j+1:Y):O)-1-1=(j:O)-1)
  .have d:k=0:=by have d:¬(k:O)-1>=0:=aT d;omega
   subst d;rw[hc];exact a6<|aO<|N J<|cx J
section
variable{α:Type}(d:α)(lt:α->Bool)(x:α)(l:V α)
def iv:Y->Bool×V α
 |0=>(false,[])
 |i+1=>if(!(iv i).1&&lt (E l i d))=af then(af,(iv i).2++[x]++[E l i d])else((iv i).1,(iv i).2++[E l i d])
def T9(i:Y):iv d lt x l (i+1)=if(!(iv d lt x l i).1&&lt (E l i d))=af then(af,(iv d lt x l i).2++[x]++[E l i d])else((iv d lt x l i).1,(iv d lt x l i).2++[E l i d]):=rfl
def rf:V α:=if(iv d lt x l<|Z l).1=af then(iv d lt x l<|Z l).2 else(iv d lt x l<|Z l).2++[x]
def Ua:∀i,(iv d lt x l i).2.length=i+(if(iv d lt x l i).1=af then 1 else 0)
 |0=>rfl
 |i+1=>by
  have:=Ua i;rw[iv];cases h:(iv d lt x l i).1
  .rw[h]at this;simp only[CN,Bool.true_and];split
   .simp at this⊢;omega
   .simp[h]at this⊢;omega
  .rw[h]at this;simp only[MN,Bool.false_and,gY,bN];simp[h]at this⊢;omega
def adF:∀i,i<=Z l->(iv d lt x l i).2.Perm (if(iv d lt x l i).1=af then x::h i l else h i l)
 |0,_=>by rw[iv];simp
 |i+1,g=>by
  have a:=adF i G;have f:h (i+1) l=h i l++[E l i d]:=by rw[rv,aV,cH G];rfl
  rw[iv,f];cases c:(iv d lt x l i).1
  .rw[c]at a;simp only[CN,Bool.true_and];simp only[gY,bN]at a;split
   .simp only[b9];refine(List.Perm.append_right _<|a.append_right [x]).trans ?_;rw[kF];exact(List.perm_append_comm_assoc _ _ _)
   .simp only[c,gY,bN];exact a.append_right _
  .rw[c]at a;simp only[MN,Bool.false_and,gY,bN];simp only[b9]at a;simp only[c,b9];exact a.append_right _
def adG:(rf d lt x l).Perm (x::l):=by
 have h:=adF d lt x l (Z l)<|a7 _;unfold rf;rw[fv]at h;split
 .rename_i e;rwa[e]at h
 .rename_i e;rw[Bool.not_eq_true]at e;rw[e]at h;simp only[gY,bN]at h;exact(h.append_right [x]).trans List.perm_append_comm
end
def aoZ(l:V (V O×O))(x:V O×O)(hl:Z l<=1000)(H:Z x.1<=1000)(L:∀m∈l,Z m.1<=1000):al z 208 [I MT l,.a<|av MT x] (I MT<|rf ([],0) (λm=>decide<|q8 x.1 m.1<0) x l):=by
 refine aR Tryz.func208 ?_;have t:=Ua ([],0) (λm=>decide<|q8 x.1 m.1<0) x l;have K:=T9 ([],0) (λm=>decide<|q8 x.1 m.1<0) x l;generalize B:iv ([],0) (λm=>decide<|q8 x.1 m.1<0) x l=T at*;refine N J<|w<|fg MT [] J J (s J<|N J<|U<|N J ?_);refine R<|aY (α:=Y) (λi=>⟨[(0,I MT l),(3,.c<|.P 0 0),(5,.c<|.X 1000000),(6,cB (T i).1),(7,j i)],[(0,.box 178 0<|av MT x),(1000000,.vec 178 MT (T i).2)],4,[]⟩) (λi=>i<=Z l) (λi=>Z l-i) 0 (be _) (by rw[<-B];exact(wk (bJ J) ⟨bE J J,bR J,e⟩)) ?_;intro i o;have u:=t i;have M:(T i).2.length<=1001:=by split at u<;>omega
 refine U<|N J<|y J (λh1=>?_)<|λh1=>?_
 .have h1:i<Z l:=by have h1:(i:O)<(Z l:O):=aK h1;omega
  have Q:ae ((i:O))=i:=bW i;have C:(E l (ae<|(i:O))<|ET.aD MT)=E l i ([],0):=a8 (λS=>E l S ([],0)) Q;have W:=L (E l i ([],0)) NY;have F:=aoY x.1 (E l i ([],0)).1 H W;have f:=K i;have v:=t<|i+1;rw[<-C]at*;obtain⟨n,g⟩:∃n,n=if(!(T i).1&&decide (q8 x.1 (E l (ae<|(i:O))<|ET.aD MT).1<0))=af then(T i).2++[x]else(T i).2:=⟨_,J⟩
  have A:(T<|i+1).2=n++[E l (ae<|(i:O)) (ET.aD MT)]:=by rw[f,g];split<;>rfl
  have b:Z n<=1001:=by rw[A,hP,qB]at v;split at v<;>omega
  refine aA<|U<|R ?_;refine jk ⟨[(0,I MT l),(3,.c<|.P 0 0),(5,.c<|.X 1000000),(6,cB (T<|i+1).1),(7,j i)],[(0,.box 178 0<|av MT x),(1000000,.vec 178 MT n)],8,[]⟩ ?_<|λp=>w<|rg 17 J J (λd=>?_)<|λd=>?_
  .refine bT (rl MT [_] J J (ra J J J J J J J J J ?_ ?_<|s J ?_) (hp:=aF))
   .show(_+1+(_+1)/4+192)*32<=_;omega
   .show(_+1)*2<=_;omega
   refine aX<|rt J<|aG (i+1) h1 uN<|Wk.trans (wk (st':=⟨[(0,I MT l),(3,.c<|.P 0 0),(5,.c<|.X 8006000),(6,cB (T<|i+1).1),(7,j ((i+1:Y):O))],[(0,.box 178 0<|av MT x),(8006000,.vec 178 MT (T<|i+1).2)],16,[]⟩) (bJ J) ⟨bR J,bE J ?_,e⟩)<|Wk.trans (fa 1000000 8006000 J J J) aH;rw[A]
  .have d:(T i).1=false:=by
    cases r:(T i).1
    .rfl
    .rw[r]at d;cases d
   refine gK J J J J J F (s J<|y J (λk=>?_)<|λk=>?_) (hp:=aF)
   .have k:decide (q8 x.1 (E l (ae<|(i:O))<|ET.aD MT).1<0)=af:=k;rw[d,k]at g;rw[d,k]at f;have g:n=(T i).2++[x]:=g;refine w (rl MT [x] J J (ra J J J J J J J J J ?_ ?_<|s J ?_))
    .show(_+1+(_+1)/4+192)*32<=_;omega
    .show(_+1)*2<=_;omega
    refine rt J<|dM p<|Wk.trans (wk (st':=⟨[(0,I MT l),(3,.c<|.P 0 0),(5,.c<|.X 6003000),(6,cB (T<|i+1).1),(7,j i)],[(0,.box 178 0<|av MT x),(6003000,.vec 178 MT n)],8,[]⟩) ⟨sR J,sR J,sR J,sE J ?_,sR J,e⟩ ⟨bR J,bE J ?_,e⟩)<|Wk.trans (fa 1000000 6003000 J J J) aH
    .rw[f];rfl
    .rw[g]
   .have k:decide (q8 x.1 (E l (ae<|(i:O))<|ET.aD MT).1<0)=false:=k;rw[d,k]at g;rw[d,k]at f;have g:n=(T i).2:=g;refine cZ (dM p<|wk ⟨sR J,sR J,sR J,sE J ?_,sR J,e⟩ ⟨bR J,bE J ?_,e⟩)
    .rw[f,d];rfl
    .rw[g]
  .have d:(T i).1=af:=by
    cases r:(T i).1
    .rw[r]at d;cases d
    .rfl
   rw[d]at g;rw[d]at f;have g:n=(T i).2:=g;refine s J<|y J (λk=>by cases k)<|λk=>cZ<|dM p<|wk ⟨sR J,sR J,sR J,sE J ?_,sR J,e⟩ ⟨bR J,bE J ?_,e⟩
   .rw[f,d];rfl
   .rw[g]
 .have h1:i=Z l:=by have h1:¬(i:O)<(Z l:O):=aT h1;omega
  subst h1;refine a6<|aO<|U<|N J<|y J (λd=>?_)<|λd=>?_
  .have d:(T<|Z l).1=false:=by
    cases r:(T<|Z l).1
    .rfl
    .rw[r]at d;cases d
   refine bT<|rl MT [x] J J (ra J J J J J J J J J ?_ ?_<|s J ?_)
   .show(_+1+(_+1)/4+192)*32<=_;omega
   .show(_+1)*2<=_;omega
   refine aO<|c6 6003000 J J J<|N J<|bQ J ?_;unfold rf;rw[B,d];rfl
  .have d:(T<|Z l).1=af:=by
    cases r:(T<|Z l).1
    .rw[r]at d;cases d
    .rfl
   refine aA<|c6 1000000 J J J<|N J<|bQ J ?_;unfold rf;rw[B,d];rfl
end Go.El
