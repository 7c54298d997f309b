/- Plain: polynomials modulo a prime, as lists. Own work; no condition. -/
import Derived.Test.YtkkccchkmcjcpaaGreatV6
import Derived.Test.YtkkccchkmcjcpaaGreatV5
import Derived.Test.YtkkccchkmcjcpaaGreatV3
set_option linter.all false
set_option maxHeartbeats 16000000
set_option maxRecDepth 100000
open Bool renaming true->ae
open Go renaming TypeId->eL
open Go.El renaming rr->e,cS->N,vL->q,gy->L,cI->D,re->o,auI->z,y6->u,rb->t,kZ->w,ps->h
open Go.Proofs.Tryz renaming prog->j
open Int renaming toNat->ad
open List renaming getD->Y,take->y,length->G,replicate->bh,range->be,drop->aE
open Nat renaming blt->f'
open Quotient renaming liftOn₂->akN,liftOn->akO
open _root_ renaming Int->Z,List->V,Nat->I
namespace Go.El
open Go Go.Proofs Go.RowKit
def aY(p:Z)(a:V Z):Prop:=rp p a/\can a
def Y2(a:V Z):∀n i,gY a n<=i->i<n->Y a i 0=0
 |0,i,_,c=>by omega
 |n+1,i,b,h2=>by
  rw[gY]at b;split at b
  .rename_i c;by_cases d:i=n
   .rw[d];exact c
   .exact Y2 a n i b S
  .omega
def DZ(a:V Z) n i:(y n a).getD i 0=if i<n then Y a i 0 else 0:=by
 rw[aF,F3];split
 .rw[aF]
 .rfl
def cF(a:V Z){i}(b:G a<=i):Y a i 0=0:=by rw[aF,lG b];rfl
def nR a:h (au a)=h a:=PS.ext λi=>by
 rw[cc,cc,au,DZ];split
 .rfl
 .rename_i b;by_cases e:i<G a
  .exact(Y2 a (G a) i S e).symm
  .exact(cF a S).symm
def Ry{p}(b:0<p){a}(c:rp p a) n:rp p (y n a):=λi=>by
 rw[DZ];split
 .exact c i
 .exact⟨gk _,b⟩
def Rz{p}(b:0<p){a}(c:rp p a):rp p (au a):=Ry b c _
def gH{p}(b:0<p){a}(c:rp p a):aY p (au a):=⟨Rz b c,Fw a⟩
def nS{p}(a:0<p):aY p []:=⟨λi=>by simp;exact a,.inl J⟩
def kK a:G (au a)<=G a:=by unfold au;rw[il];omega
def uQ{a}(b:can a):au a=a:=by
 have:gY a (G a)=G a:=by
  cases hl:G a with
  |zero=>rfl
  |succ n=>
   rw[gY,M]
   rcases b with b|b
   .rw[b]at hl;cases hl
   .rw[hl]at b;exact b
 rw[au,this,eE]
def aY.top{p}{a}(c:aY p a){n}(b:G a=n+1):Y a n 0%p≠0:=by
 rcases c.2 with e|e
 .rw[e]at b;cases b
 .rw[b,eJ]at e;have:=c.1 n;rw[gT this.1 this.2];exact e
def aY.len{p}{a}(b:aY p a){n}(c:Dl p n (h a)):G a<=n:=by
 by_cases e:G a<=n
 .exact e
 .obtain⟨m,d⟩:∃m,G a=m+1:=⟨G a-1,S⟩;exact absurd (c m S)<|b.top d
def Bq{p}{a b}(d:aY p a)(f:aY p b)(c:Cg p (h a) (h b)):a=b:=by have r:=d.len<|(iN p b).cg c.symm;have v:=f.len<|(iN p a).cg c;refine lq S<|λi m n=>?_;have g:=c.at i;have k:=d.1 i;have l:=f.1 i;rw[cc,cc,gT k.1 k.2,gT l.1 l.2,aF,aF,bD m,bD n]at g;exact g
def LU p a:Cg p (h<|md p a) (h a):=Cg.of λi=>by rw[cc,cc,Bn,jJ]
def tn:h []=0:=PS.ext λi=>by rw[cc,PS.l0];rfl
def akw{p}{a}(b:aY p a)(c:Cg p (h a) 0):a=[]:=by have:=b.len (n:=0)<|(Bl p 0).cg c.symm;exact et S
def Hn{r}{k}v(a:k<G r):h (r.set k v)=h r+PS.K (v-Y r k 0)*PS.X k:=PS.ext λi=>by
 rw[PS.eR,PS.eS,cc,cc,ls _ _ _ _ a];unfold PS.X;split
 .rename_i e;first
   | (subst e;simp;omega)
   | (rw[e];simp;omega)
 .rename_i e;rw[M (λa=>e a.symm)];omega
def D0 a i:h (y (i+1) a)=h (y i a)+PS.K (Y a i 0)*PS.X i:=PS.ext λj=>by
 rw[PS.eR,PS.eS,cc,cc,DZ,DZ];unfold PS.X;by_cases b:j<i
 .rw[s b,s S,M S];omega
 .by_cases e:j=i
  .subst e;rw[s S,M S,s J];omega
  .rw[M S,M S,M e];omega
def Ho a:h (y 0 a)=0:=by rw[Bh,tn]
def zt:h [1]=1:=PS.ext λi=>by
 cases i with
 |zero=>rfl
 |succ i=>rfl
def LV n:h (bh n 0)=0:=PS.ext λi=>by rw[cc,PS.l0,aF,j9];split<;>rfl
def Cg.RA{p a b}(d:a%p=b%p) c:Cg p (PS.K a*c) (PS.K b*c):=(Cg.K d).oT c
def Y3(a b:V Z)(p:Z)(i:I)(r:V Z):∀c,i+c<=G r->Cg p (h<|rP a b p i c r) (h r+PS.K (Y a i 0)*PS.X i*h (y c b))
 |0,_=>by rw[rP,Ho,PS.mul_zero,PS.add_zero];exact Cg.refl _ _
 |c+1,f=>by
  have d:=Y3 a b p i r c S;rw[rP,Hn _ (by rw[G'];omega),D0,PS.mul_add,<-PS.add_assoc];refine d.add ?_;have e:PS.K (Y a i 0)*PS.X i*(PS.K (Y b c 0)*PS.X c)=PS.K (Y a i 0*Y b c 0)*PS.X (i+c):=by rw[PS.rQ,PS.LG];ac_rfl
  rw[e];refine Cg.RA ?_ _;rw[tq,jJ,<-tq];congr 1;omega
def Y4(a b:V Z)(p:Z):∀i,i<=G a->Cg p (h<|nj a b p i) (h (y i a)*h b)
 |0,_=>by rw[nj,LV,Ho,PS.zero_mul];exact Cg.refl _ _
 |i+1,f=>by have d:=Y4 a b p i S;have c:=Y3 a b p i (nj a b p i) (G b) (by rw[Ha];omega);rw[eE]at c;rw[nj,D0,PS.add_mul];exact c.trans<|d.ou _
def rS a b p:Cg p (h<|bT a b p) (h a*h b):=by
 unfold bT;split
 .rename_i c;rcases c with c|c
  .rw[c,tn,PS.zero_mul];exact Cg.refl _ _
  .rw[c,tn,PS.mul_zero];exact Cg.refl _ _
 .rw[nR];have:=Y4 a b p (G a)<|a8 _;rwa[eE]at this
def je{p}(c:0<p) a b:aY p (bT a b p):=by
 unfold bT;split
 .exact nS c
 .exact gH c<|Hb a b c _
def qI a b p:G (bT a b p)<=G a+G b-1:=by
 unfold bT;split
 .exact aW _
 .have:=kK<|nj a b p<|G a;rwa[Ha]at this
def Y5 a b p:Cg p (h<|au<|hZ a b p) (h a-h b):=by
 rw[nR];refine Cg.of λi=>?_
 rw[PS.xP,cc,cc,cc,hZ,aF,gj];by_cases c:i<max (G a) (G b)
 .rw[jW c];show((Y a i 0+p-Y b i 0)%p)%p=_;rw[jJ,(S:Y a i 0+p-Y b i 0=Y a i 0-Y b i 0+p),RB]
 .rw[lG bP,cF a S,cF b S];rfl
def Br{p:Z}{A:PS}:∀{m:I},Dl p m A->Cg p A 0\/∃d,d<m/\A d%p≠0/\Dl p (d+1) A
 |0,a=> .inl<|akl a
 |m+1,a=>by
  by_cases b:A m%p=0
  .rcases Br (m:=m) (A:=A) (p:=p) (λi k=>by
    by_cases f:i=m
    .rw[f];exact b
    .exact a i S)with c|⟨d,c,h2,g⟩
   .exact .inl c
   .exact .inr ⟨d,S,h2,g⟩
  .exact .inr ⟨m,S,b,a⟩
def xS{p}(c:cE p){a B}{d b}(f:Dl p (d+1) a)(g:Dl p (b+1) B)(i:a d%p≠0)(k:B b%p≠0):(a*B) (d+b)%(p:Z)≠0:=by rw[f.top g];exact c.nQ i k
def Y6{p}(c:cE p){a B}{m n}(f:Dl p m a)(g:Dl p (n+1) B)(i:B n%p≠0)(k:Dl p n (a*B)):Cg p a 0:=by
 rcases Br f with b|⟨d,b,h2,l⟩
 .exact b
 .exact absurd (k (d+n) S)<|xS c l g h2 i
def RC{p}(k:cE p){Q R a b B}{m n}(l:Dl p (n+1) B)(r:B n%p≠0)(v:Dl p m Q)(c:Dl p m a)(x:Dl p n R)(d:Dl p n b)(E:Cg p (Q*B+R) (a*B+b)):Cg p Q a/\Cg p R b:=by
 have e:Cg p ((Q-a)*B) (b-R):=by
  have C:(Q-a)*B=(Q*B+R)+ -(a*B+R):=by rw[PS.sub_def,PS.add_mul,PS.neg_mul,PS.neg_add];have:Q*B+R+(-(a*B)+ -R)=Q*B+ -(a*B)+(R+ -R):=eT;rw[this,PS.add_neg,PS.add_zero]
  have F:b-R=(a*B+b)+ -(a*B+R):=by rw[PS.sub_def,PS.neg_add];have:a*B+b+(-(a*B)+ -R)=a*B+ -(a*B)+(b+ -R):=eT;rw[this,PS.add_neg,PS.zero_add]
  rw[C,F];exact E.ou _
 have i:=Y6 k (v.sub c) l r<|(d.sub x).cg e.symm;have f:Cg p Q a:=by have:=i.ou a;have g:Q-a+a=Q:=RD;rwa[g,PS.zero_add]at this
 refine⟨f,?_⟩;have H:Cg p (b-R) 0:=by have:=i.oT B;rw[PS.zero_mul]at this;exact e.symm.trans this
 have:=H.ou R;have g:b-R+R=b:=RD;rw[g,PS.zero_add]at this;exact this.symm
def akx{p}(c:cE p){a B}{m n}(l:Dl p m a)(r:Dl p n B)(f:Cg p (a*B) 1):Dl p 1 a:=by
 have b:¬(1:Z)%(p:Z)=0:=by have:=c.1;rw[gT A S];decide
 have g:¬Cg p (a*B) 0:=λe=>b (by have:=(e.symm.trans f).at 0;rw[PS.l0,dj]at this;exact this.symm)
 rcases Br l with v|⟨d,_,h2,i⟩
 .exact absurd (by have:=v.oT B;rwa[PS.zero_mul]at this) g
 .rcases Br r with x|⟨e,_,C,E⟩
  .exact absurd (by have:=x.tj a;rwa[PS.mul_zero]at this) g
  .have k:=xS c i E h2 C;rw[f.at (d+e)]at k;by_cases F:d=0
   .subst F;exact i
   .exact absurd (LK (p:Z) (d+e) S) k
def PS.sub_add_cancel(a B:PS):a-B+B=a:=RD
def PS.add_sub_cancel(a B:PS):a+B-B=a:=by rw[PS.sub_def,PS.add_assoc,PS.add_neg,PS.add_zero]
def Y7(b:V Z)(p c:Z)(i:I)(r:V Z):∀a,i+a<=G r->Cg p (h<|uN b p c i a r) (h r-PS.K c*PS.X i*h (y a b))
 |0,_=>by rw[uN,Ho,PS.mul_zero,PS.sub_def,PS.neg_zero,PS.add_zero];exact Cg.refl _ _
 |a+1,g=>by
  have d:=Y7 b p c i r a S;have e:h r-PS.K c*PS.X i*h (y (a+1) b)=(h r-PS.K c*PS.X i*h (y a b))+PS.K (-(c*Y b a 0))*PS.X (i+a):=by
   rw[D0,PS.mul_add,PS.sub_def,PS.neg_add,PS.sub_def,<-PS.add_assoc];congr 1;have f:PS.K c*PS.X i*(PS.K (Y b a 0)*PS.X a)=PS.K (c*Y b a 0)*PS.X (i+a):=by rw[PS.rQ,PS.LG];ac_rfl
   rw[f,PS.neg_eq,<-PS.mul_assoc,<-PS.rQ];congr 2;omega
  rw[uN,Hn _ (by rw[Lz];omega),e];refine d.add<|Cg.RA ?_ _;rw[tq,jJ,<-tq,show∀x:Z,x+(p-c)*Y b a 0-x= -(c*Y b a 0)+p*Y b a 0 by intro x;rw[An];omega,DC]
structure DvI(a b:V Z)(p:Z)(m n k:I)(x:V Z×V Z):Prop where
 cg:Cg p (h a) (h x.1*h b+h x.2)
 dl:Dl p (n+(m-k)) (h x.2)
 z:∀c,c<m-k->x.1.getD c 0=0
def Y8{p:Z}{a b:V Z}{v:Z}{n m:I}(F:G b=n+1)(r:G a=n+m)(B:Y b n 0*v%p=1%p):∀k,k<=m->DvI a b p m n k (iY a b p v m n k)
 |0,_=>by
  refine⟨?_,?_,λd E=>?_⟩
  .rw[iY,LV,PS.zero_mul,PS.zero_add];exact Cg.refl _ _
  .rw[iY,wb,<-r];exact iN p a
  .rw[iY,aF,j9];split<;>rfl
 |k+1,R=>by
  have f:=Y8 F r B k S;have U:=LA a b p v m n k;obtain⟨i,W⟩:∃i,m=i+(k+1):=⟨m-(k+1),S⟩;have C:m-(k+1)=i:=S;rw[iY,C];generalize hx:iY a b p v m n k=x at*;generalize hc:Y x.2 (i+n) 0*v%p=c;have g:=Y7 b p c i x.2 (G b) S;rw[eE]at g;have H:Y x.1 i 0=0:=f.z i S;have P:h (x.1.set i c)=h x.1+PS.K c*PS.X i:=by rw[Hn c S,H,xv]
  refine⟨?_,?_,λd E=>?_⟩
  .simp only;rw[P];have l:h x.1*h b+h x.2=(h x.1+PS.K c*PS.X i)*h b+(h x.2-PS.K c*PS.X i*h b):=by rw[PS.add_mul,PS.sub_def];have:h x.1*h b+PS.K c*PS.X i*h b+(h x.2+ -(PS.K c*PS.X i*h b))=h x.1*h b+h x.2+(PS.K c*PS.X i*h b+ -(PS.K c*PS.X i*h b)):=eT;rw[this,PS.add_neg,PS.add_zero]
   exact(f.cg.trans<|Cg.of_eq l).trans<|g.symm.LH _
  .simp only;refine Dl.cg (λd E=>?_) g.symm;rw[PS.xP,PS.mul_assoc,PS.eS,PS.nP];by_cases e:d=n+i
   .subst e;rw[s S,(S:n+i-i=n),cc,cc,<-hc,AL i n];generalize Y x.2 (n+i) 0=y;rw[tq,kJ,jJ,<-kJ,jb,ew v,kJ,B,<-kJ,lA,Bs,dj]
   .have l:=f.dl d S;have Q:=iN p b (d-i) S;rw[s S,tq,l,kJ,Q,dI,dj];rfl
  .simp only;rw[ls _ _ _ _ S];split
   .omega
   .exact f.z d S
def we{p}(a:cE p)(b:p<=2147483648){x:Z}(c:0<=x)(g:x<p)(i:x≠0):x*((eQ (ad x) (ad ((p:I):Z)):I):Z)%(p:Z)=1:=by
 obtain⟨y,rfl⟩:=xK c;have k:=a.1;rw[aV,aV,YY y p S S];have d:¬p∣y:=λf=>by have:=pG S f;omega
 have l:=a.inv d;rw[<-fF];omega
def akz{p}{r}{n}(c:rp p r)(d:Dl p n (h r)):h (y n r)=h r:=PS.ext λi=>by
 rw[cc,cc,DZ];split
 .rfl
 .have a:=d i S;have b:=c i;rw[cc,gT b.1 b.2]at a;exact a.symm
def iO{p}(x:cE p)(d:p<=2147483648){a b}(B:rp p a)(E:aY p b)(i:b≠[]):
  Cg p (h a) (h (aJ a b p).1*h b+h (aJ a b p).2)/\rp p (aJ a b p).1/\rp p (aJ a b p).2/\(aJ a b p).2.length<=G b-1/\(aY p a->aY p (aJ a b p).2)/\(aJ a b p).1.length=G a-(G b-1):=by
 have R:=x.1
 have c:(0:Z)<(p:Z):=S
 obtain⟨n,k⟩:∃n,G b=n+1:=⟨G b-1,by have:=bX.2 i;omega⟩
 rw[aJ,k,eJ]
 by_cases l:G a<=n
 .rw[s l];refine⟨?_,(nS c).1,B,l,λK=>K,?_⟩
  .rw[tn,PS.zero_mul,PS.zero_add];exact Cg.refl _ _
  .show 0=_;omega
 .rw[M l];obtain⟨m,C⟩:∃m,G a=n+m:=⟨G a-n,S⟩;rw[C,DT];have f:=E.1 n;have r:Y b n 0≠0:=by have:=E.top k;exact λe=>this xT
  have P:=we x d f.1 f.2 r;generalize ((eQ (ad<|Y b n 0) (ad ((p:I):Z)):I):Z)=v at*;have F:=Y8 (p:=p) (v:=v) k C (by rw[P,gT A S]) m<|a8 _;have Q:=LA a b p v m n m;have g:=Rl b v m n c B m;have H:=F.dl;rw[gx,jE]at H;refine⟨?_,g.1,Rz c<|Ry c g.2 n,?_,λ_=>gH c<|Ry c g.2 n,Q.1⟩
  .simp only;rw[nR,akz g.2 H];exact F.cg
  .simp only;have:=kK<|(iY a b p v m n m).2.take n;rw[il]at this;omega
def nm(p:Z):I->V Z->V Z->V Z
 |0,f,_=>f
 |k+1,f,g=>if g=[]then f else nm p k g (aJ f g p).2
def jL(p:Z)(a:V Z):V Z:=if a=[]then[]else bT a [((eQ (ad<|Y a (G a-1) 0) (ad p):I):Z)] p
def c8(p:Z)(f g:V Z):V Z:=jL p<|nm p (G g+1) f g
def aU(p:Z)(a:PS):Prop:=∃n,Dl p n a
def aU.add{p}{b B}(a:aU p b)(k:aU p B):aU p (b+B):=by let ⟨n,a⟩:=a;let ⟨m,k⟩:=k;exact⟨max n m,(a.le S).add<|k.le S⟩
def aU.neg{p}{b}(a:aU p b):aU p (-b):=by let ⟨n,a⟩:=a;exact⟨n,a.neg⟩
def aU.sub{p}{a B}(b:aU p a)(k:aU p B):aU p (a-B):=by rw[PS.sub_def];exact b.add k.neg
def aU.mul{p}{b B}(a:aU p b)(k:aU p B):aU p (b*B):=by let ⟨n,a⟩:=a;let ⟨m,k⟩:=k;exact⟨n+m,a.mul' k⟩
def aU.ps p a:aU p (h a):=⟨_,iN p a⟩
def aU.K p c:aU p (PS.K c):=⟨_,Ro p c⟩
def aU.zero p:aU p 0:=⟨0,Bl p 0⟩
def aU.one p:aU p 1:=⟨1,LK p⟩
def aU.cg{p}{b B}(a:aU p b)(k:Cg p b B):aU p B:=by let ⟨n,a⟩:=a;exact⟨n,a.cg k⟩
def fU(p:Z)(a B:PS):Prop:=∃U V,aU p U/\aU p V/\Cg p (U*a+V*B) 1
def fU.symm{p}{a B}(b:fU p a B):fU p B a:=by let ⟨U,V,c,h2,d⟩:=b;exact⟨V,U,h2,c,by rw[PS.add_comm];exact d⟩
def fU.cg{p}{a B b c}(d:fU p a B)(f:Cg p a b)(kb:Cg p B c):fU p b c:=by let ⟨U,V,g,h2,i⟩:=d;exact⟨U,V,g,h2,((f.tj U).add<|kb.tj V).symm.trans i⟩
def fU.step{p}{a B Q R}(c:fU p a B)(d:aU p Q)(f:Cg p a (Q*B+R)):fU p B R:=by
 let ⟨U,V,b,h2,g⟩:=c;refine⟨U*Q+V,U,(b.mul d).add h2,b,?_⟩;have:(U*Q+V)*B+U*R=U*(Q*B+R)+V*B:=by simp only[PS.mul_add,PS.add_mul];ac_rfl
 rw[this];exact((f.symm.tj U).ou _).trans g
def fU.akA{p}{a B Q R}(b:fU p B R)(c:aU p Q)(d:Cg p a (Q*B+R)):fU p a B:=by
 let ⟨U,V,f,h2,g⟩:=b;refine⟨V,U-V*Q,h2,f.sub<|h2.mul c,?_⟩;have i:V*(Q*B+R)+(U-V*Q)*B=U*B+V*R:=by rw[PS.mul_add,PS.sub_def,PS.add_mul,PS.neg_mul];have:V*(Q*B)+V*R+(U*B+ -(V*Q*B))=(U*B+V*R)+(V*Q*B+ -(V*Q*B)):=eT;rw[this,PS.add_neg,PS.add_zero]
 exact((d.tj V).ou _).trans<|(Cg.of_eq i).trans g
def LW{p:I}(d:cE p)(a:p<=2147483648):∀(k:I)(f g:V Z),aY p f->aY p g->G g<k->aY p (nm p k f g)/\(fU p (h f) (h g)↔G (nm p k f g)=1)/\G (nm p k f g)<=max (G f) (G g)
 |0,_,_,_,_,l=>by omega
 |k+1,f,g,c,hg,l=>by
  rw[nm];have H:=d.1;split
  .rename_i e;subst e;refine⟨c,⟨λb=>?_,λC=>?_⟩,S⟩
   .let ⟨U,P,r,Q,b⟩:=b;rw[tn,PS.mul_zero,PS.add_zero,PS.mul_comm]at b;let ⟨m,r⟩:=r;have x:=c.len<|akx d (iN p f) r b;by_cases e:G f=0
    .exfalso;have:=et e;subst this;rw[tn,PS.zero_mul]at b;have:=b.at 0;rw[PS.l0,dj]at this;have v:(1:Z)%(p:Z)=1:=gT A S;have B:(0:Z)=1%(p:Z):=this;omega
    .omega
   .have x:=c.top (n:=0) S;have v:=c.1 0;have B:Y f 0 0≠0:=λe=>x xT
    have E:=we d a v.1 v.2 B;refine⟨PS.K ((eQ (Y f 0 0).toNat (ad ((p:I):Z)):I):Z),0,aU.K _ _,aU.zero _,?_⟩;rw[PS.zero_mul,PS.add_zero];have F:h f=PS.K (Y f 0 0):=PS.ext λi=>by
     unfold PS.K;split
     .rename_i e;subst e;rfl
     .exact cF f S
    rw[F,<-PS.rQ,PS.DV,ew];exact Cg.K (by rw[E,gT A S])
  .rename_i e;let ⟨d1,d2,d3,d4,d5,d6⟩:=iO d a c.1 hg e;have C:=bX.2 e;let ⟨i1,i2,i3⟩:=LW d a k g (aJ f g p).2 hg (d5 c) S;refine⟨i1,⟨λb=>i2.1<|b.step (aU.ps _ _) d1,λl=>(i2.2 l).akA (aU.ps _ _) d1⟩,S⟩
def LX{p}(l:cE p)(c:p<=2147483648){a}(m:aY p a)(r:a≠[]):aY p (jL p a)/\G (jL p a)=G a/\Y (jL p a) (G a-1) 0=1/\Cg p (h<|jL p a) (h a*PS.K ((eQ (ad<|Y a (G a-1) 0) (ad ((p:I):Z)):I):Z))/\Cg p (h a) (h (jL p a)*PS.K (Y a (G a-1) 0)):=by
 have Q:=l.1;obtain⟨n,x⟩:∃n,G a=n+1:=⟨G a-1,by have:=bX.2 r;omega⟩;have B:=m.1 n;have f:Y a n 0≠0:=λe=>m.top x xT
 have C:=we l c B.1 B.2 f;rw[jL,M r,x,eJ];generalize ((eQ (ad<|Y a n 0) (ad ((p:I):Z)):I):Z)=v at*;have g:h [v]=PS.K v:=PS.ext λi=>by
  cases i with
  |zero=>rfl
  |succ i=>rfl
 have d:=rS a [v] p;rw[g]at d;have E:=je (S:(0:Z)<p) a [v];have b:(h<|bT a [v] p) n%(p:Z)=1:=by rw[d.at n,PS.mul_comm,PS.eS,ew,cc];exact C
 have H:n<G (bT a [v] p):=by
  by_cases e:n<G (bT a [v] p)
  .exact e
  .rw[cc,cF _ S]at b;simp at b
 have k:=qI a [v] p;have P:G (bT a [v] p)=n+1:=by simp only[fu,k6]at k;omega
 refine⟨E,P,?_,d,?_⟩
 .have F:=E.1 n;rw[cc,gT F.1 F.2]at b;exact b
 .refine Cg.symm<|(d.oT _).trans ?_;rw[PS.mul_assoc,<-PS.rQ,ew v];have:Cg p (h a*PS.K (Y a n 0*v)) (h a*PS.K 1):=(Cg.K<|by rw[C,gT A S]).tj _;rw[<-PS.DV,PS.mul_one]at this;exact this
def Hp{p}(b:cE p)(a:p<=2147483648){f g}(c:aY p f)(d:aY p g):G (c8 p f g)=1↔fU p (h f) (h g):=by
 let ⟨i,h2,k⟩:=LW b a (G g+1) f g c d<|di _;rw[h2,c8];by_cases e:nm p (G g+1) f g=[]
 .rw[e,jL,s J]
 .rw[(LX b a i e).2.1]
def akB k l:h (bh k 0++l)=PS.X k*h l:=PS.ext λi=>by
 rw[PS.nP,cc,cc,aF,LY,fo];by_cases a:i<k
 .rw[s a,M S,j9,s a];rfl
 .rw[M a,s S,<-aF]
def akC{p}(a:0<p) k{l}(b:rp p l):rp p (bh k 0++l):=λi=>by
 rw[aF,LY,fo];split
 .rw[j9];split<;>exact⟨gk _,a⟩
 .have:=b<|i-k;rwa[aF]at this
def RE x:h [x]=PS.K x:=PS.ext λi=>by
 cases i with
 |zero=>rfl
 |succ i=>rfl
def pI{p x}(a:0<=x)(b:x<p):rp p [x]:=λi=>by
 cases i with
 |zero=>exact⟨a,b⟩
 |succ i=>exact⟨gk _,(S:(0:Z)<p)⟩
structure Hq(p:Z)(a b:V Z)(M:I)(x:V Z×V Z):Prop where
 c:aY p x.1
 l:x.1.length<=a.length
 ql:x.2.length=M
 qr:rp p x.2
 cg:Cg p (h a) (h x.2*h b+h x.1)
 z:∀d,d+b.length<=x.1.length->x.2.getD d 0=0
def Hq.next{p}(hp:cE p)(x:p<=2147483648){a b}{B}{r d}(g:Hq p a b B (r,d))(hb:aY p b)(Q:b≠[])(hl:G b<=G r)(hM:G a-G b<B)
 {f}(R:f=Y r (G r-1) 0*((eQ (ad<|Y b (G b-1) 0) (ad ((p:I):Z)):I):Z)%(p:Z)):
  Hq p a b B (au<|hZ r (bh (G r-G b) 0++bT [f] b p) p,d.set (G r-G b) f)/\G (au<|hZ r (bh (G r-G b) 0++bT [f] b p) p)<G r:=by
 have V:=hp.1
 have c:(0:Z)<(p:Z):=S
 have J:=bX.2 Q
 obtain⟨n,U⟩:∃n,G b=n+1:=⟨G b-1,S⟩
 obtain⟨k,w⟩:∃k,G r=k+(n+1):=⟨G r-(n+1),S⟩
 rw[w,U,eJ,(S:k+(n+1)-1=n+k)]at R
 rw[w,U,eJ]
 have C:=hb.1 n
 have W:Y b n 0≠0:=λe=>hb.top U xT
 have L:=we hp x C.1 C.2 W
 generalize ((eQ (ad<|Y b n 0) (ad ((p:I):Z)):I):Z)=v at*
 have E:0<=f/\f<p:=by rw[R];exact⟨fS _ S,gA _ c⟩
 generalize N:bh k 0++bT [f] b p=i
 have o:Cg p (h i) (PS.K f*PS.X k*h b):=by rw[<-N,akB];have m:=rS [f] b p;rw[RE]at m;have t:=m.tj<|PS.X k;have e:PS.X k*(PS.K f*h b)=PS.K f*PS.X k*h b:=eT;rwa[e]at t
 have F:Cg p (h<|au<|hZ r i p) (h r-PS.K f*PS.X k*h b):=(Y5 r i p).trans<|(Cg.refl _ _).sub o
 have H:aY p (au<|hZ r i p):=gH c<|Bp c r i
 have A:G (au<|hZ r i p)<=n+k:=by
  refine H.len<|Dl.cg (λj D=>?_) F.symm;rw[PS.xP,PS.mul_assoc,PS.eS,PS.nP];by_cases e:j=n+k
  .subst e;rw[s S,(S:n+k-k=n),cc,cc,R];generalize Y r (n+k) 0=y;rw[tq,kJ,jJ,<-kJ,jb,ew v,kJ,L,lA,jJ,Bs,dj]
  .have m:=iN p r j (S:G r<=j);have t:=iN p b (j-k) S;rw[s S,tq,m,kJ,t,dI,dj];rfl
 have P:k<G d:=by have O:G r<=G a:=g.l;have h6:G d=B:=g.ql;omega
 have u:Y d k 0=0:=g.z k (S:k+G b<=G r)
 refine⟨⟨H,?_,?_,DS g.qr _ E.1 E.2,?_,λj D=>?_⟩,S⟩
 .have O:G r<=G a:=g.l;show G (au<|hZ r i p)<=G a;omega
 .show G (d.set k f)=B;rw[fP];exact g.ql
 .simp only;rw[Hn f P,u,xv];have T:h d*h b+h r=(h d+PS.K f*PS.X k)*h b+(h r-PS.K f*PS.X k*h b):=by rw[PS.add_mul,PS.sub_def];have:h d*h b+PS.K f*PS.X k*h b+(h r+ -(PS.K f*PS.X k*h b))=h d*h b+h r+(PS.K f*PS.X k*h b+ -(PS.K f*PS.X k*h b)):=eT;rw[this,PS.add_neg,PS.add_zero]
  have m:Cg p (h a) (h d*h b+h r):=g.cg;exact(m.trans<|Cg.of_eq T).trans<|F.symm.LH _
 .simp only at D⊢;rw[ls _ _ _ _ P];split
  .omega
  .exact g.z j (S:j+G b<=G r)
def zu p(hp:cE p)(B:p<=2147483648) a b(la:G a<=500)(lb:G b<=500)(Q:aY p a)(R:aY p b)(E:b≠[]):
  af j 87 [N u a,N u b,cU p] (.a [.S u (au (aJ a b p).1),.S u (aJ a b p).2]):=by
 refine aD Tryz.func87 ?_
 have h2:=hp.1
 have d:(0:Z)<(p:Z):=S
 have He:(p:Z)≠0:=S
 have hl0:=bX.2 E
 have U:=uO a p S d S<|λi=>(Q.1 i).1
 rw[Bo Q.1,uQ Q.2]at U
 refine rr J<|aO J J U J<|t ?_
 obtain⟨M,hM⟩:∃M:I,max ((G a:Z)-(G b:Z)+1) 0=(M:Z):=⟨ad<|max ((G a:Z)-(G b:Z)+1) 0,S⟩
 refine rm u M J J J J J J (kH .u64) (by rw[s J];split<;>omega) ?_ ?_<|o J ?_
 .show _*8<=_;omega
 .show _*1<=_;omega
 have a2:ad ((G b:Z)-1)=G b-1:=S
 have O:=R.1<|G b-1
 have RF:Y b (G b-1) 0≠0:=λe=>R.top (n:=G b-1) S xT
 have W:=Rw (Y b (G b-1) 0) p O RF S S
 have F:af j 154 [cU (Y b (ad<|(G b:Z)-1) 0),cU p] (.t [(false,[.I .u64 (eQ (ad<|Y b (G b-1) 0) (ad ((p:I):Z)):I)]),(false,[.I .i64 0])]):=by rw[a2];exact W
 refine t<|rc J J F<|o J (hp:=ak) ?_
 generalize hv:((eQ (ad<|Y b (G b-1) 0) (ad ((p:I):Z)):I):Z)=v
 have hvb:0<=v/\v<p:=by have:=G9 (ad<|Y b (G b-1) 0) (p-2) p S;rw[<-hv,eQ,aV];omega
 have GX:Hq p a b M (a,bh M 0):=by
  refine⟨Q,a8 _,fo,Lx d M,?_,λfQ _=>?_⟩
  .show Cg p (h a) (h (bh M 0)*h b+h a);rw[LV,PS.zero_mul,PS.zero_add];exact Cg.refl _ _
  .show Y (bh M (0:Z)) fQ 0=0;rw[aF,j9];split<;>rfl
 refine L<|q<|aK (α:=V Z×V Z) (λx=>⟨[(1,N u b),(2,cU p),(6,.c<|.P 0 0),(7,N u x.1),(8,.c<|.X 2007000),(9,cU v)],[(0,.box 120 0 [.V (.slice none 0 0),.V<|.slice none 0 0]),(2007000,.vec 25 u x.2)],4,[]⟩) (Hq p a b M) (λx=>G x.1) (a,bh M 0) GX (wk (aS J) ⟨bE J J,bR J,T⟩) ?_
 rintro⟨r,g⟩ K
 have hc:aY p r:=K.c
 have Hr:G r<=G a:=K.l
 have DH:G g=M:=K.ql
 refine L<|rr J<|z J (λC=>?_)<|λC=>?_
 .have C:G b<=G r:=by have C:(G r:Z)>=(G b:Z):=az C;omega
  generalize hf:Y r (G r-1) 0*v%(p:Z)=f;let ⟨w,y⟩:=K.next hp B R E C S (f:=f) (by rw[hv];exact hf.symm);have A:0<=f/\f<p:=by rw[<-hf];exact⟨fS _ S,gA _ d⟩
  have hg:=hc.1<|G r-1;have a3:ad ((G r:Z)-1)=G r-1:=S;obtain⟨k,hk⟩:∃k,G r=k+G b:=⟨G r-G b,S⟩;have ek:(G r:Z)-(G b:Z)=(k:Z):=S;rw[(S:G r-G b=k)]at w y;refine ai<|q<|rr J<|rr J (hp:=ak) ?_;refine dc (st':=⟨[(1,N u b),(2,cU p),(6,.c<|.P 0 0),(7,N u r),(8,.c<|.X 2007000),(9,cU v),(11,D k),(12,cU f)],[(0,.box 120 0 [.V (.slice none 0 0),.V<|.slice none 0 0]),(2007000,.vec 25 u g)],8,[]⟩) (wk ⟨sR J,sR J,sR J,sR J,sR J,sR J,sE J ?_,sE J ?_,T⟩<|jv J) ?_
  .exact gh ek
  .refine bA ?_;rw[a3,<-hf];exact LB _ v p hg hvb S
  refine rr J (hp:=ak)<|t ?_;refine rm u k J J J J J J (kH .u64) J ?_ ?_ ?_
  .show _*8<=_;omega
  .show _*1<=_;omega
  have RH:=uP [f] b p ax S d S (pI A.1 A.2) R.1;have rC:=qI [f] b p;simp only[fu,k6]at rC;refine rl u [_] J J (rc J J RH<|ra J J J J J J J J J ?_ ?_<|o J ?_)
  .show(_+_+(_+_)/4+192)*8<=_;rw[fo];omega
  .show(_+_)*1<=_;rw[fo];omega
  refine cD 9007000 J J J ?_;have RI:=Hm r (bh k 0++bT [f] b p) p S (by rw[fO,fo];omega) d S hc.1<|akC d k (je d _ _).1;refine bs<|rc J J RI<|o J<|dy<|aA (au<|hZ r (bh k 0++bT [f] b p) p,g.set k f) w y<|wk (aS J) ⟨bR J,bE J ?_,T⟩;refine aC (aH.vec 25 u) ?_;rw[aV]
 .have C:G r<G b:=by have C:¬(G r:Z)>=(G b:Z):=aL C;omega
  have H:rp p g:=K.qr;have hcg:Cg p (h a) (h g*h b+h r):=K.cg;let ⟨d1,d2,d3,d4,d5,d6⟩:=iO hp B Q.1 R E;obtain⟨n,hn⟩:∃n,G b=n+1:=⟨G b-1,S⟩;let ⟨e1,e2⟩:=RC hp (m:=max (G g) (aJ a b p).1.length) (n:=n) (hn▸iN p b) (R.top hn) ((iN p g).le S) ((iN p (aJ a b p).1).le S) ((iN p r).le S) ((iN p (aJ a b p).2).le S)<|hcg.symm.trans d1;have f2:r=(aJ a b p).2:=Bq hc (d5 Q) e2;have f1:au g=au (aJ a b p).1:=Bq (gH d H) (gH d d2) (by rw[nR,nR];exact e1);have ht:=uO g p S d S<|λi=>(H i).1;rw[Bo H,f1]at ht;refine aN<|ay<|cD 2007000 J J J<|aO J J ht J<|bq J ?_;rw[f2];rfl
def tr p(f:cE p)(c:p<=2147483648) a b(g:G a<=500)(i:G b<=500)(k:aY p a)(l:aY p b)(d:b≠[]):
  af j 68 [N u a,N u b,cU p] (N u (aJ a b p).2):=by
 refine aD Tryz.func68 ?_
 exact e J<|aO J J (zu p f c a b g i k l d) J<|bU J
def RJ p(x:cE p)(c:p<=2147483648) a(F:G a<=500)(k:aY p a):
  af j 84 [N u a,cU p] (N u<|jL p a):=by
 refine aD Tryz.func84 ?_
 have H:=x.1
 have d:(0:Z)<(p:Z):=S
 refine rr J<|L<|rr J<|z J (λh=>?_)<|λh=>ai ?_
 .have h:(G a:Z)=0:=eq_of_beq h;have l:a=[]:=et S;refine rr J<|bc<|bt<|g8 a6 J ?_;rw[jL,s l];exact a7.nil u
 .have h:(G a:Z)≠0:=fT h;have l:a≠[]:=λe=>h sK
  have C:ad ((G a:Z)-1)=G a-1:=S;have m:=k.1<|G a-1;have r:Y a (G a-1) 0≠0:=λe=>k.top (n:=G a-1) S xT
  have f:=Rw (Y a (G a-1) 0) p m r S S;have b:af j 154 [cU (Y a (ad<|(G a:Z)-1) 0),cU p] (.t [(false,[.I .u64 (eQ (ad<|Y a (G a-1) 0) (ad ((p:I):Z)):I)]),(false,[.I .i64 0])]):=by rw[C];exact f
  refine t<|rc J J b (hp:=ak)<|o J ?_;have B:=LX x c k l;generalize E:((eQ (ad<|Y a (G a-1) 0) (ad ((p:I):Z)):I):Z)=v at*;have g:0<=v/\v<p:=by have:=G9 (ad<|Y a (G a-1) 0) (p-2) p S;rw[<-E,eQ,aV];omega
  have i:=uP [v] a p ax S d S (pI g.1 g.2) k.1;have e:bT [v] a p=jL p a:=by refine Bq (je d _ _) B.1<|(rS [v] a p).trans ?_;rw[RE,PS.mul_comm];exact B.2.2.2.1.symm
  rw[e]at i;exact t<|rl u [_] J J (rc J J i<|o J<|bU J)
def Bt p(n:cE p)(c:p<=2147483648) a b(B:G a<=500)(E:G b<=500)(F:aY p a)(H:aY p b):
  af j 70 [N u a,N u b,cU p] (N u<|c8 p a b):=by
 refine aD Tryz.func70 ?_
 refine e J<|L<|q<|aK (α:=I×V Z×V Z) (λx=>⟨[(0,N u x.2.1),(1,N u x.2.2),(2,cU p)],[],1,[]⟩) (λx=>nm p x.1 x.2.1 x.2.2=nm p (G b+1) a b/\G x.2.2<x.1/\aY p x.2.1/\aY p x.2.2/\G x.2.1<=500/\G x.2.2<=500) (λx=>G x.2.2) (G b+1,a,b) ⟨J,di _,F,H,B,E⟩ aM ?_
 rintro⟨k,f,g⟩ ⟨d,h2,l,m,r,v⟩
 simp only at d h2 l m r v
 cases k with
 |zero=>omega
 |succ k=>
 rw[nm]at d
 refine L<|e J<|z J (λh=>?_)<|λh=>?_
 .have i:g≠[]:=by have h:(G g:Z)>0:=az h;intro C;rw[C]at h;simp at h
  rw[M i]at d;let ⟨d1,d2,d3,d4,d5,d6⟩:=iO n c l.1 m i;have K:=bX.2 i;exact ai<|q<|aO J J (tr p n c f g r v l m i) J<|e J<|rt J<|dy<|aA (k,g,(aJ f g p).2) ⟨d,(S:(aJ f g p).2.length<k),m,d5 l,v,(S:(aJ f g p).2.length<=500)⟩ (S:(aJ f g p).2.length<G g) aM
 .have i:g=[]:=by have h:¬(G g:Z)>0:=aL h;exact et S
  rw[s i]at d;refine aN<|ay<|aO J J (RJ p n c f r l) J<|bq J ?_;rw[c8,<-d]
def LZ(a b:V Z)(f:G a<=1000000):af j 13 [N u a,N u b] (cB<|decide<|a=b):=by
 refine aD Tryz.func13 ?_;refine rr J<|L<|rr J<|z J (λh=>?_)<|λh=>ai ?_
 .have h:=nN h;refine rr J<|bc<|bt<|c9 J<|aC cB ?_;rw[iX (λe=>h oV)]
 .have h:=nO h;refine L<|rr J<|q<|aK (α:=I) (λi=>⟨[(0,N u a),(1,N u b),(5,D i)],[],4,[]⟩) (λi=>i<=G a/\y i a=y i b) (λi=>G a-i) 0 ⟨aW _,ax⟩ aM ?_;rintro i ⟨g,ht⟩;refine L (rr J<|z J (λc=>?_)<|λc=>?_)
  .have c:i<G a:=by have c:(i:Z)<(G a:Z):=az c;omega
   refine ai<|L<|q<|rr J (hp:=ak)<|z J (λd=>?_)<|λd=>bN<|aT ?_
   .have d:Y a i 0≠Y b i 0:=nN d;refine rr J<|bc ?_;repeat(first|refine bt ?_|refine eH ?_|refine gf ?_)
    refine c9 J<|aC cB ?_;rw[iX (λe=>d oV)]
   .have d:Y a i 0=Y b i 0:=nO d;exact rt J<|aA (i+1) ⟨c,by rw[jK a i c,jK b i S,ht,d]⟩ ka aM
  .have c:i=G a:=by have c:¬(i:Z)<(G a:Z):=aL c;omega
   subst c;rw[eE,iI S]at ht;refine aN<|ay<|rr J<|bq J<|aC cB ?_;rw[jU ht]
def RK(a:V Z) p(m:G a<=1000)(d:0<p)(n:p<18446744073709551616)(f:∀i,0<=Y a i 0):af j 61 [N u a,cU p] (aP (au<|md p a) p):=by
 refine aD Tryz.func61 ?_;have g:=oU p a;refine e J<|t<|rm u (G a) J J J J J J (kH .u64) J ?_ ?_<|o J<|L<|e J ?_
 .show _*8<=_;omega
 .show _*1<=_;omega
 refine q<|aK (α:=I) (λi=>⟨[(0,N u a),(1,cU p),(4,.c<|.P 0 0),(5,.c<|.X 1002000),(11,D<|G a),(12,D i)],[(0,.box 101 0 [.V (.slice none 0 0),.I .u64 0]),(1002000,.vec 25 u<|(md p a).take i++bh (G a-i) 0)],3,[]⟩) (λi=>i<=G a) (λi=>G a-i) 0 (aW _) (wk (aS J) ⟨bE J J,bE J ?_,T⟩) ?_
 .simp
 intro i r;have k:G ((md p a).take i)=i:=bP;have l:G ((md p a).take i++bh (G a-i) (0:Z))=G a:=bP;refine e J<|L<|z J (λh=>?_)<|λh=>?_
 .have h:i<G a:=by have h:(i:Z)<(G a:Z):=az h;omega
  refine ai<|L<|q<|e J<|rt J (hp:=ak)<|aT<|rt J<|aA (i+1) h ka<|wk (aS J) ⟨bE J J,bE J ?_,T⟩;refine aC (aH.vec 25 u) ?_;have b:=Lt ((md p a).take i) (G a-(i+1))<|Y a i 0%p;rw[k,(S:G a-(i+1)+1=G a-i)]at b;rw[aV,oh<|f i,b,jK _ i S,Bn]
 .have h:i=G a:=by have h:¬(i:Z)<(G a:Z):=aL h;omega
  subst h;rw[gx,uz,iW,iI S];exact aN<|ay<|cD 1002000 J J J<|aO J J (DR (md p a) p S) J<|bU J
def Hs{x}(a:x≠0):au [x]=[x]:=uQ<|.inr a
def zv f n p(b:0<p)(g:p<18446744073709551616)(c:0<=n)(a:n<p):af j 125 [aP f p,cU n] (aP (au [n]) p):=by refine aD Tryz.func125 ?_;have d:=RK [n] p ax b g (λi=>(pI c a i).1);rw[Bo (pI c a)]at d;exact e J<|t<|rl u [_] J J (rc J J d<|o J<|bU J)
def Y9{p}(d:cE p){a}(c:aY p a)(f:a≠[]):0<=Y a (G a-1) 0/\Y a (G a-1) 0<p/\Y a (G a-1) 0≠0/\(0<=((eQ (ad<|Y a (G a-1) 0) (ad ((p:I):Z)):I):Z)/\((eQ (ad<|Y a (G a-1) 0) (ad ((p:I):Z)):I):Z)<p):=by have g:=d.1;have i:=bX.2 f;have b:=c.1<|G a-1;refine⟨b.1,b.2,λe=>c.top (n:=G a-1) S xT,?_⟩;have:=G9 (ad<|Y a (G a-1) 0) (p-2) p S;rw[eQ,aV];omega
def Y' p(k:cE p)(b:p<=2147483648) a(H:G a<=500)(m:aY p a):af j 62 [aP a p] (aP (jL p a) p):=by
 refine aD Tryz.func62 ?_;have K:=k.1;have f:(0:Z)<(p:Z):=S;refine rr J<|L<|rr J<|z J (λh=>?_)<|λh=>ai ?_
 .have h:(G a:Z)=0:=eq_of_beq h;have d:a=[]:=et S;subst d;exact rr J<|bc<|bt<|atR J
 .have h:(G a:Z)≠0:=fT h;have d:a≠[]:=λe=>h sK
  have P:=bX.2 d;have E:ad ((G a:Z)-1)=G a-1:=S;let ⟨m1,r,x,l⟩:=Y9 k m d;have g:=LC (Y a (G a-1) 0) p ⟨m1,r⟩ x S S;have c:af j 124 [cU (Y a (ad<|(G a:Z)-1) 0),cU p] (.t [(false,[.I .u64 (eQ (ad<|Y a (G a-1) 0) (ad ((p:I):Z)):I)]),(false,[.I .i64 0])]):=by rw[E];exact g
  have Q:=LX k b m d;have i:=we k b m1 r x;refine t<|rc J J (tf a p S)<|rc J J c (hp:=ak)<|o J ?_;have F:jL p a=bT a [((eQ (ad<|Y a (G a-1) 0) (ad ((p:I):Z)):I):Z)] p:=by rw[jL,M d]
  generalize ((eQ (ad<|Y a (G a-1) 0) (ad ((p:I):Z)):I):Z)=v at*;have n:v≠0:=λe=>by rw[e,dI,dj]at i;cases i
  have B:=zv a v p f S l.1 l.2;rw[Hs n]at B;have C:=Hc a [v] p S ax f S m.1 (pI l.1 l.2);rw[<-F]at C;exact t<|rc J J B<|rc J J C<|o J<|bU J
def akF{a:V Z}(c:a≠[]):∃x b,a=x::b:=by
 cases a with
 |nil=>exact absurd J c
 |cons x b=>exact⟨x,b,J⟩
def xU p(i:cE p)(f:p<=2147483648) a b(k:G a<=1000)(l:G b<=1000)(m:rp p a)(g:aY p b)(d:a≠[])(c:b≠[]):af j 127 [aP a p,aP b p] (.t [(ae,[.S u (aJ a b p).1,.I .u64 p]),(ae,[.S u (aJ a b p).2,.I .u64 p])]):=by have r:=i.1;let ⟨x,t,e⟩:=akF d;have v:=bX.2 c;exact akj x t b p e k l S S m g.1 c<|λe=>g.top (n:=G b-1) S xT
def L0 p(r:cE p)(d:p<=2147483648) a b(F:G a<=500)(H:G b<=500)(Q:aY p a)(R:aY p b)(v:a≠[]):af j 92 [aP a p,aP b p] (aP (c8 p a b) p):=by
 refine aD Tryz.func92 ?_;refine e J<|L<|q<|aK (α:=I×V Z×V Z) (λx=>⟨[(2,.c<|.P 0 0),(3,.c<|.P 1000 0),(4,.c<|.P 2000 0)],[(0,.box 101 0 [.S u x.2.1,.I .u64 p]),(1000,.box 101 0 [.S u x.2.2,.I .u64 p]),(2000,.box 101 0 [.V (.slice none 0 0),.I .u64 0])],1,[]⟩) (λx=>nm p x.1 x.2.1 x.2.2=nm p (G b+1) a b/\G x.2.2<x.1/\aY p x.2.1/\aY p x.2.2/\G x.2.1<=500/\G x.2.2<=500/\x.2.1≠[]) (λx=>G x.2.2) (G b+1,a,b) ⟨J,di _,Q,R,F,H,v⟩ (wk (aS J) ⟨bE J J,bE J J,bE J J,T⟩) ?_;rintro⟨k,f,g⟩ ⟨l,h2,m,n,B,C,E⟩;simp only at l h2 m n B C E;cases k with
 |zero=>omega
 |succ k=>
 rw[nm]at l;refine L<|e J<|z J (λh=>?_)<|λh=>?_
 .have i:g≠[]:=by have h:(G g:Z)>0:=az h;intro K;rw[K]at h;simp at h
  rw[M i]at l;let ⟨d1,d2,d3,d4,d5,d6⟩:=iO r d m.1 n i;have U:=bX.2 i;exact ai<|q<|aO J J (xU p r d f g S S m.1 n E i) J<|rt J<|dy<|aA (k,g,(aJ f g p).2) ⟨l,(S:(aJ f g p).2.length<k),n,d5 m,C,(S:(aJ f g p).2.length<=500),i⟩ (S:(aJ f g p).2.length<G g)<|wk (aS J) ⟨bE J J,bE J J,bE J J,T⟩
 .have i:g=[]:=by have h:¬(G g:Z)>0:=aL h;exact et S
  rw[s i]at l;refine aN<|ay<|aO J J (Y' p r d f B m) J<|bq J ?_;rw[c8,<-l];rfl
def jy(f:V Z)(a:Z)(g:V Z)(p:Z):V Z:=(be<|max (G f)<|G g).map λi=>if i<G g then(Y f i 0+a*Y g i 0)%p else Y f i 0
def L3 f a g p:G (jy f a g p)=max (G f) (G g):=by simp[jy]
def RL f a g p i:Y (jy f a g p) i 0=if i<G g then(Y f i 0+a*Y g i 0)%p else Y f i 0:=by
 unfold jy;rw[aF,gj];by_cases h:i<max (G f) (G g)
 .rw[jW h];rfl
 .rw[lG bP,M S,cF f S];rfl
def Hu{p}(a:0<p){f}(b:rp p f) c g:rp p (jy f c g p):=λi=>by
 rw[RL];split
 .exact⟨fS _ S,gA _ a⟩
 .exact b i
def Za f a g p:Cg p (h<|jy f a g p) (h f+PS.K a*h g):=Cg.of λi=>by
 rw[cc,RL,PS.eR,PS.eS,cc,cc];split
 .rw[jJ]
 .rename_i b;rw[cF g S,dI,mT]
def RM f b g p(lf:G f<=1000)(lg:G g<=1000)(n:0<p)(Q:p<=2147483648)(E:rp p f)(R:rp p g)(U:0<=b/\b<p)(r:f≠[]\/g≠[]):af j 233 [aP f p,cU b,aP g p] (aP (au<|jy f b g p) p):=by
 refine aD Tryz.func233 ?_;generalize hM:max (G f) (G g)=d;have K:0<d:=by
  rcases r with l|l
  .have:=bX.2 l;omega
  .have:=bX.2 l;omega
 have hL:=L3 f b g p;have m:=RL f b g p;have W:=Hu n E b g;generalize jy f b g p=a at*;refine e J<|t<|rm u d J J J J J J (kH .u64) (by rw[s J];split<;>omega) ?_ ?_<|o J ?_
 .show _*8<=_;omega
 .show _*1<=_;omega
 refine t<|GF J J J J J K8 (λl=>by have:=aC G l;rw[fo]at this;simp at this;omega)<|o J ?_;refine L<|e J ?_;refine q<|aK (α:=I) (λi=>⟨[(1,cU b),(3,.c<|.P 0 0),(5,.c<|.P 1000 0),(6,.c<|.P 2000 0),(7,.c<|.X 1007000),(23,D<|G g),(24,D i)],[(0,.box 101 0 [.S u f,.I .u64 p]),(1000,.box 101 0 [.S u g,.I .u64 p]),(2000,.box 101 0 [.V (.slice none 0 0),.I .u64 0]),(1007000,.vec 25 u<|y i a++(f++bh (d-G f) 0).drop i)],5,[]⟩) (λi=>i<=G g) (λi=>G g-i) 0 (aW _) (wk (aS J) ⟨bE J J,bE J J,bE J J,bE J ?_,T⟩) ?_
 .refine aC (aH.vec 25 u) ?_;simp
 intro i hi;have v:(y i a).length=i:=bP;have H:∀k,(f++bh (d-G f) (0:Z)).getD k 0=Y f k 0:=λk=>by
  rw[aF,LY];split
  .rw[<-aF]
  .rw[j9,cF f S];split<;>rfl
 have w:(f++bh (d-G f) (0:Z)).length=d:=bP;generalize f++bh (d-G f) (0:Z)=F at*;have x:(y i a++aE i F).length=d:=bP;have B:(y i a++aE i F).getD i 0=Y f i 0:=by rw[aF,vF S,v,gx,rA,jE,<-aF,H]
 refine e J<|L<|z J (λh=>?_)<|λh=>?_
 .have h:i<G g:=by have h:(i:Z)<(G g:Z):=az h;omega
  refine ai<|L<|q<|e J<|rt J (hp:=ak)<|aT<|rt J<|aA (i+1) h (S:G g-(i+1)<G g-i)<|wk (aS J) ⟨bE J J,bE J J,bE J J,bE J ?_,T⟩;refine aC (aH.vec 25 u) ?_;have A:=Rj (Y f i 0) b (Y g i 0) p (E i) U (R i) Q;show(y i a++aE i F).set (ad (i:Z)) _=_;rw[aV];refine Eq.trans (aC ((y i a++aE i F).set i)<|show _=Y a i 0 from ?_) ?_
  .show(IntKind.wrap .u64<|(y i a++aE i F).getD (ad (i:Z)) 0+IntKind.wrap .u64 (b*Y g (ad (i:Z)) 0)).tmod p=_;rw[aV,B,A,m,s h]
  .rw[jK a i S,jR];conv=>lhs;rw[oR _ _ S,v,gx,lY S,A9]
   rfl
 .have h:i=G g:=by have h:¬(i:Z)<(G g:Z):=aL h;omega
  subst h;have l:y (G g) a++aE (G g) F=a:=by
   refine lq (by rw[x];omega)<|λk N O=>?_;have:(y (G g) a++aE (G g) F).getD k 0=Y a k 0:=by
    rw[aF,LY,v];split
    .rename_i C;rw[yC C,<-aF]
    .rename_i C;rw[rA,(S:G g+(k-G g)=k),<-aF,H,m,M C]
   rw[aF,aF,bD N,bD O]at this;exact this
  rw[l];exact aN<|ay<|cD 1007000 J J J<|aO J J (DR a p S) J<|bU J
abbrev vN:C:= .V<|.slice none 0 0
def akG a b p(d:a=[]\/b=[]):af j 94 [aP a p,aP b p] (.a [vN,.I .u64 p]):=by
 refine aD Tryz.func94 ?_;refine rr J<|L<|t ?_;refine rg 12 J J (λc=>?_)<|λc=>?_
 .exact o J<|z J (λh2=>rr J<|bc<|bt<|atR J)<|λh2=>nl
 .have c:¬(G a:Z)=0:=fT c;have f:a≠[]:=λe=>c sK
  refine o J<|z J (λh2=>rr J<|bc<|bt<|atR J)<|λh2=>?_;exfalso;have h2:¬(G b:Z)=0:=fT h2;exact h2 (by rw[d.resolve_left f];rfl)
def akH:af j 181 [.c vN] (.c vN):=by refine aD Tryz.func181 ?_;refine e J<|L<|t<|rx J J T<|o J ?_;exact z J (λh=>e J<|bc<|bt<|atR J)<|λh=>bS
def akI b p(B:G b<=1000)(f:b≠[]):af j 127 [.a [vN,.I .u64 p],aP b p] (.t [(ae,[.S u [],.I .u64 p]),(ae,[.S u [],.I .u64 p])]):=by
 refine aD Tryz.func127 ?_;have C:=bX.2 f;refine e J<|aO J J akH J<|t<|rc J J (tf b p S)<|o J<|L<|e J ?_;refine z J (λh=>?_)<|λh=>?_
 .refine e J<|bc<|bt<|g8 a6 J ?_;refine⟨?_,λE c=>by cases c⟩;rintro g v ⟨vs,rfl,v1,r1,rfl,⟨us,rfl,v2,i,rfl,k,h2⟩,w1,F,rfl,⟨l,rfl,d,m,rfl,n,r⟩,x⟩;exact⟨_,J,_,_,J,⟨_,J,v2,i,J,(a7.nil u).1 g v2 k,h2⟩,_,_,J,⟨_,J,d,m,J,(a7.nil u).1 g d n,r⟩,x⟩
 .exfalso;have h:¬(0:Z)<=(G b:Z)-1:=aL h;omega
def Zb{p}(k:cE p){a b}(l:aY p a)(r:aY p b)(c:a≠[])(d:b≠[]):bT a b p≠[]:=λe=>by have h:=rS a b p;rw[e,tn]at h;obtain⟨n,f⟩:∃n,G a=n+1:=⟨G a-1,by have:=bX.2 c;omega⟩;obtain⟨m,g⟩:∃m,G b=m+1:=⟨G b-1,by have:=bX.2 d;omega⟩;have i:=xS k (f▸iN p a) (g▸iN p b) (l.top f)<|r.top g;rw[<-h.at (n+m),PS.l0,dj]at i;exact i J
def Hv p(i:cE p)(d:p<=2147483648) f a b(x:G f<=400)(B:G a<=400)(E:G b<=400)(r:aY p f)(m:aY p a)(n:aY p b)(c:f≠[]):af j 159 [aP f p,aP a p,aP b p] (aP (aJ (bT a b p) f p).2 p):=by
 refine aD Tryz.func159 ?_;have C:=i.1;have F:=bX.2 c;have v:=qI a b p;by_cases h:a=[]\/b=[]
 .have g:(aJ (bT a b p) f p).2=[]:=by rw[bT,s h,aJ,s ax]
  rw[g];exact e J<|t<|rc J J (akG a b p h)<|rc J J (akI f p S c)<|o J<|e J<|bU J
 .have k:a≠[]:=λg=>h (.inl g)
  have l:b≠[]:=λg=>h<|.inr g
  exact e J<|t<|rc J J (Hc a b p S S S S m.1 n.1)<|rc J J (xU p i d _ f S S (je S a b).1 r (Zb i m n k l) c)<|o J<|e J<|bU J
def oW(p:Z):I->V Z->V Z->V Z->V Z->V Z×V Z
 |0,last,_,a,_=>(last,a)
 |k+1,last,next,a,v=>if next=[]then(last,a)else oW p k next (aJ last next p).2 v (au<|jy a (p-1) (bT (aJ last next p).1 v p) p)
def lC(p:Z)(f m:V Z):V Z:=
 (aJ (bT (oW p (G f+1) m f [] [1]).2 (au [((eQ (ad<|(oW p (G f+1) m f [] [1]).1.getD 0 0) (ad p):I):Z)]) p) m p).2
structure zw(p:Z)(F M:PS)(L:I)(a next b v:V Z):Prop where
 cl:aY p a
 cn:aY p next
 cu:aY p b
 cv:aY p v
 lt:next.length<a.length
 lu:b.length+a.length<=L+1
 lv:v.length+a.length<=L+1
 eu:∃W,aU p W/\Cg p (h b*F) (h a+W*M)
 ev:∃W,aU p W/\Cg p (h v*F) (h next+W*M)
 qJ:fU p (h a) (h next)
def akJ p a:Cg p (PS.K (p-1)*a) (-a):=by rw[PS.neg_eq];exact Cg.RA (by rw[(S:p-1= -1+p*1),DC]) a
def zw.vne{p}(g:cE p){F a}{i}{b next k v}(f:zw p F a i b next k v){n}(l:Dl p (n+1) a)(c:a n%p≠0)(r:G next<=n)(x:next≠[]):v≠[]:=λe=>by
 let ⟨W,d,hc⟩:=f.ev;rw[e,tn,PS.zero_mul]at hc;let ⟨m,d⟩:=d;have B:Cg p (0*a+0) (W*a+h next):=by rw[PS.zero_mul,PS.add_zero,PS.add_comm];exact hc
 let ⟨_,h2⟩:=RC g l c (m:=m) (Bl _ _) d (Bl _ _) ((iN p next).le r) B;exact x<|akw f.cn h2.symm
def zw.next{p}(B:cE p)(g:p<=2147483648){F c}{E}{a next d v}(b:zw p F c E a next d v)(H:next≠[]):zw p F c E next (aJ a next p).2 v (au<|jy d (p-1) (bT (aJ a next p).1 v p) p):=by
 have j:=B.1;have i:(0:Z)<(p:Z):=S;let ⟨d1,d2,d3,d4,d5,d6⟩:=iO B g b.cl.1 b.cn H;have o:=bX.2 H;have K:=b.lt;have P:=b.lu;have U:=b.lv;have n:=Za d (p-1) (bT (aJ a next p).1 v p) p;have r:Cg p (h<|au<|jy d (p-1) (bT (aJ a next p).1 v p) p) (h d-h (aJ a next p).1*h v):=by rw[nR,PS.sub_def];exact n.trans<|((akJ p _).trans (rS _ _ _).neg).LH _
 have k:=kK<|jy d (p-1) (bT (aJ a next p).1 v p) p;rw[L3]at k;have W:=qI (aJ a next p).1 v p;let ⟨l,x,X⟩:=b.eu;let ⟨f,m,C⟩:=b.ev;refine⟨b.cn,d5 b.cl,b.cv,gH i<|Hu i b.cu.1 _ _,S,S,S,⟨f,m,C⟩,⟨l-h (aJ a next p).1*f,x.sub<|(aU.ps _ _).mul m,?_⟩,b.qJ.step (aU.ps _ _) d1⟩;generalize h (aJ a next p).1=Q at*;generalize h (aJ a next p).2=R at*;refine(r.oT F).trans ?_;rw[PS.sub_def,PS.add_mul,PS.neg_mul,PS.mul_assoc];refine(X.add (C.tj Q).neg).trans ?_;have e:Cg p (h a+l*c+ -(Q*(h next+f*c))) ((Q*h next+R)+l*c+ -(Q*(h next+f*c))):=(d1.ou _).ou _;refine e.trans<|Cg.of_eq ?_;rw[PS.mul_add,PS.neg_add,PS.sub_def,PS.add_mul,PS.neg_mul,PS.mul_assoc];have:Q*h next+R+l*c+(-(Q*h next)+ -(Q*(f*c)))=(Q*h next+ -(Q*h next))+(R+(l*c+ -(Q*(f*c)))):=eT
 rw[this,PS.add_neg,PS.zero_add]
def akL{p}(b:cE p)(a:p<=2147483648){f}(c:aY p f)(d:fU p (h f) (h [])):G f=1:=by have g:=b.1;have:=(LW b a 1 f [] c (nS S) ax).2.1.1 d;rwa[nm,s J]at this
def RN{p:I}(f:cE p)(b:p<=2147483648){F m:PS}{g:I}:∀(k:I)(a next c v:V Z),G next<k->zw p F m g a next c v->(oW p k a next c v).1.length=1/\aY p (oW p k a next c v).1/\aY p (oW p k a next c v).2/\(oW p k a next c v).2.length<=g/\∃W,aU p W/\Cg p (h (oW p k a next c v).2*F) (h (oW p k a next c v).1+W*m)
 |0,_,_,_,_,d,_=>by omega
 |k+1,a,next,c,v,x,d=>by
  rw[oW];split
  .rename_i i;have n:=d.qJ;rw[i]at n;have r:=akL f b d.cl n;have l:=d.lu;exact⟨r,d.cl,d.cu,(S:G c<=g),d.eu⟩
  .rename_i i;have l:=d.next f b i;have B:=l.lt;exact RN f b k _ _ _ _ S l
def RO{p}(c:cE p){f m}(d:aY p f)(g:aY p m)(a:G f<G m)(i:fU p (h f) (h m)):zw p (h f) (h m) (G m) m f [] [1]:=by
 have k:=c.1;have b:(0:Z)<(p:Z):=S;refine⟨g,d,nS b,⟨pI A S,.inr ax⟩,a,ax,bP,⟨-1,(aU.one _).neg,?_⟩,⟨0,aU.zero _,?_⟩,i.symm⟩
 .rw[tn,PS.zero_mul,PS.neg_mul,PS.one_mul,PS.add_neg];exact Cg.refl _ _
 .rw[zt,PS.one_mul,PS.zero_mul,PS.add_zero];exact Cg.refl _ _
def Zc{p}(c:cE p)(a:p<=2147483648){f m}(hf:aY p f)(r:aY p m)(v:G f<G m)(hc:fU p (h f) (h m))(d:2<=G m):aY p (lC p f m)/\G (lC p f m)<=G m-1/\(∃W,aU p W/\Cg p (h (lC p f m)*h f) (1+W*h m))/\(oW p (G f+1) m f [] [1]).2≠[]:=by
 have z:=c.1;have g:(0:Z)<(p:Z):=S;let ⟨D,H,J,L,W,P,j⟩:=RN c a (G f+1) m f [] [1] (di _) (RO c hf r v hc);rw[lC];generalize (oW p (G f+1) m f [] [1]).1=last at*;generalize (oW p (G f+1) m f [] [1]).2=u at*;have U:=H.1 0;have o:Y last 0 0≠0:=λe=>H.top (n:=0) S xT
 have x:=we c a U.1 U.2 o;have q:h last=PS.K (Y last 0 0):=PS.ext λi=>by
  unfold PS.K;split
  .rename_i e;subst e;rfl
  .exact cF last S
 have B:m≠[]:=λe=>by rw[e]at d;simp at d
 generalize ((eQ (ad<|Y last 0 0) (ad ((p:I):Z)):I):Z)=s at*;have C:s≠0:=λe=>by rw[e,dI,dj]at x;cases x
 rw[Hs C];let ⟨d1,d2,d3,d4,d5,d6⟩:=iO c a (je g u [s]).1 r B;have k:=rS u [s] p;rw[RE]at k;have b:Cg p (PS.K s*(h u*h f)) (1+PS.K s*W*h m):=by refine(j.tj<|PS.K s).trans ?_;rw[PS.mul_add,q,<-PS.rQ,PS.DV,PS.mul_assoc];exact(Cg.K<|by rw[ew,x,gT A S]).ou _
 refine⟨d5<|je g u [s],d4,⟨PS.K s*W-h (aJ (bT u [s] p) m p).1*h f,((aU.K _ _).mul P).sub<|(aU.ps _ _).mul<|aU.ps _ _,?_⟩,λe=>?_⟩
 .generalize h (aJ (bT u [s] p) m p).1=Q at*;generalize h (aJ (bT u [s] p) m p).2=R at*;have t:Cg p (Q*h m+R) (h u*PS.K s):=d1.symm.trans k;have y:R*h f=(Q*h m+R)*h f+ -(Q*h f*h m):=by
   rw[PS.add_mul];have:Q*h m*h f+R*h f+ -(Q*h f*h m)=R*h f+(Q*h m*h f+ -(Q*h m*h f)):=by rw[(eT:Q*h f*h m=Q*h m*h f)];ac_rfl
   rw[this,PS.add_neg,PS.add_zero]
  rw[y];refine((t.oT<|h f).ou _).trans ?_;rw[(eT:h u*PS.K s*h f=PS.K s*(h u*h f))];refine(b.ou _).trans<|Cg.of_eq ?_;rw[PS.sub_def,PS.add_mul,PS.neg_mul];ac_rfl
 .rw[e,tn,PS.zero_mul,PS.mul_zero]at b;obtain⟨n,X⟩:∃n,G m=n+1:=⟨G m-1,S⟩;let ⟨w,hw⟩:=(aU.K p s).mul P;have E:Cg p (0*h m+0) (PS.K s*W*h m+1):=by rw[PS.zero_mul,PS.add_zero,PS.add_comm];exact b
  let ⟨_,F⟩:=RC c (X▸iN p m) (r.top X) (m:=w) (Bl _ _) hw (Bl _ n) ((LK p).le S) E;have:=F.at 0;rw[PS.l0,dj]at this;have l:(0:Z)=1%(p:Z):=this;rw[gT A S]at l;cases l
def akM p(l:cE p)(d:p<=2147483648) f m(lm:G m<=200)(hf:aY p f)(hm:aY p m)(E:G f<G m)(hc:fU p (h f) (h m))(F:2<=G m):af j 160 [aP f p,aP m p] (aP (lC p f m) p):=by
 refine aD Tryz.func160 ?_;have h2:=l.1;have g:(0:Z)<(p:Z):=S;have He:(p:Z)≠0:=S;obtain⟨n,hn⟩:∃n,G m=n+1:=⟨G m-1,S⟩;have Bd:m≠[]:=λr=>by rw[r]at F;simp at F
 let ⟨z1,z2,z3,z4⟩:=Zc l d hf hm E hc F;let ⟨X,y2,y3,y4,_⟩:=RN l d (G f+1) m f [] [1] (di _) (RO l hf hm E hc);have w:=zv f 0 p g S A g;have y:=zv f 1 p g S A S;rw[show au [(0:Z)]=[]from J]at w;rw[show au [(1:Z)]=[1]from J]at y;refine e J<|e J<|t<|rc J J w<|rc J J y<|o J ?_;refine L<|q<|aK (α:=I×V Z×V Z×V Z×V Z) (λx=>⟨[(2,.c<|.P 0 0),(3,.c<|.P 1000 0),(4,.c<|.P 2000 0),(5,.c<|.P 1002000 0),(6,.c<|.P 1003000 0),(7,.c<|.P 2004000 0),(8,.c<|.P 2005000 0)],[(0,.box 101 0 [.S u f,.I .u64 p]),(1000,.box 101 0 [.S u m,.I .u64 p]),(2000,.box 101 0 [.V (.slice none 0 0),.I .u64 0]),(1002000,.box 101 0 [.S u x.2.1,.I .u64 p]),(1003000,.box 101 0 [.S u x.2.2.1,.I .u64 p]),(2004000,.box 101 0 [.S u x.2.2.2.1,.I .u64 p]),(2005000,.box 101 0 [.S u x.2.2.2.2,.I .u64 p])],3,[]⟩) (λx=>oW p x.1 x.2.1 x.2.2.1 x.2.2.2.1 x.2.2.2.2=oW p (G f+1) m f [] [1]/\G x.2.2.1<x.1/\zw p (h f) (h m) (G m) x.2.1 x.2.2.1 x.2.2.2.1 x.2.2.2.2/\G x.2.2.1<=n) (λx=>G x.2.2.1) (G f+1,m,f,[],[1]) ⟨J,di _,RO l hf hm E hc,(S:G f<=n)⟩ (wk (aS J) ⟨bE J J,bE J J,bE J J,bE J J,bE J J,bE J J,bE J J,T⟩) ?_;rintro⟨k,a,next,Q,v⟩ ⟨H,h3,i,D⟩;simp only at H h3 i D;cases k with
 |zero=>omega
 |succ k=>
 rw[oW]at H;refine L<|e J<|z J (λK=>?_)<|λK=>?_
 .have C:next≠[]:=by have K:(G next:Z)>0:=az K;intro r;rw[r]at K;simp at K
  rw[M C]at H;have hl:=bX.2 C;have N:=i.next l d C;have O:=i.vne l (hn▸iN p m) (hm.top hn) D C;have e1:=i.lt;have e2:=i.lu;have e3:=i.lv;have B:a≠[]:=λr=>by rw[r]at e1;simp at e1
  let ⟨d1,d2,d3,d4,d5,d6⟩:=iO l d i.cl.1 i.cn C;have rC:=qI (aJ a next p).1 v p;refine ai<|q<|aO J J (xU p l d a next S S i.cl.1 i.cn B C) J<|e J<|bs ?_;have hw:(AV.c (num .u64<|(p:Z)-1).1)=cU ((p:Z)-1):=bA<|wrap_u64 _ S S;have RP:=Hc (aJ a next p).1 v p S S g S d2 i.cv.1;have kj:Q≠[]\/bT (aJ a next p).1 v p≠[]:=by
   refine .inr λr=>?_
   have Zd:=rS (aJ a next p).1 v p;rw[r,tn]at Zd;let ⟨W,hW,Hw⟩:=N.ev;obtain⟨b,hb⟩:∃b,G v=b+1:=⟨G v-1,by have:=bX.2 O;omega⟩;have uH:¬Cg p (h (aJ a next p).1) 0:=λhz=>by
    have h8:Cg p (h a) (h (aJ a next p).2):=by refine d1.trans ?_;have:=(hz.oT<|h next).ou<|h (aJ a next p).2;rwa[PS.zero_mul,PS.zero_add]at this
    have h9:=aC G<|Bq i.cl (d5 i.cl) h8;omega
   let ⟨dg,L4⟩:=(Br<|iN p (aJ a next p).1).resolve_left uH;have Ze:=xS l L4.2.2 (hb▸iN p v) L4.2.1<|i.cv.top hb;rw[<-Zd.at (dg+b),PS.l0,dj]at Ze;exact absurd J Ze
  have Hx:=RM Q ((p:Z)-1) (bT (aJ a next p).1 v p) p S S g S i.cu.1 (je g _ _).1 ⟨S,S⟩ kj;rw[<-hw]at Hx;refine rc J J RP<|rc J J Hx<|o J ?_;refine dy<|aA (k,next,(aJ a next p).2,v,au<|jy Q (p-1) (bT (aJ a next p).1 v p) p) ⟨H,(S:(aJ a next p).2.length<k),N,(S:(aJ a next p).2.length<=n)⟩ (S:(aJ a next p).2.length<G next)<|wk (aS J) ⟨bE J J,bE J J,bE J J,bE J J,bE J J,bE J J,bE J J,T⟩
 .have C:next=[]:=by have K:¬(G next:Z)>0:=aL K;exact et S
  rw[s C]at H;rw[lC,<-H];rw[<-H]at X y2 y3 y4 z4;simp only at X y2 y3 y4 z4;let ⟨m1,m2,m3,R⟩:=Y9 l y2 (λr=>by rw[r]at X;cases X);rw[X]at m1 m2 m3 R;simp only[gx]at m1 m2 m3 R;have hinv:=LC (Y a 0 0) p ⟨m1,m2⟩ m3 S S;refine aN<|ay<|t<|rc J J hinv (hp:=ak)<|o J<|t ?_;have nD:=we l d m1 m2 m3;generalize ((eQ (ad<|Y a 0 0) (ad ((p:I):Z)):I):Z)=U at*;have Dr:U≠0:=λr=>by rw[r,dI,dj]at nD;cases nD
  have sX:=zv f U p g S R.1 R.2;rw[Hs Dr]at sX⊢;have rC:=qI Q [U] p;simp only[fu,k6]at rC;have Zf:aY p [U]:=⟨pI R.1 R.2,.inr Dr⟩;refine rc J J sX<|rc J J (Hc Q [U] p S ax g S y3.1 Zf.1)<|rc J J (xU p l d _ m S S (je g Q [U]).1 hm (Zb l y3 Zf z4 ax) Bd)<|o J<|e J<|bU J
def RQ(p:Z):Setoid {a:PS//aU p a}:=⟨λa B=>Cg p a.1 B.1,⟨λa=>Cg.refl p a.1,Cg.symm,Cg.trans⟩⟩
def Fx(p:Z):Type:=Quotient<|RQ p
namespace Fx
variable{p:Z}
def mk(a:PS)(b:aU p a):Fx p:=Quotient.mk (RQ p) ⟨a,b⟩
def mk_eq{a B}{b:aU p a}{k:aU p B}:mk a b=mk B k↔Cg p a B:=⟨λe=>Quotient.exact e,λe=>Quotient.sound (s:=RQ p) e⟩
def ex x:∃a,∃b:aU p a,x=mk a b:=by refine Quotient.inductionOn x<|λa=>?_;exact⟨a.1,a.2,J⟩
instance:Add (Fx p):=⟨λx y=>akN x y (λA B=>mk (A.1+B.1)<|A.2.add B.2)<|λ_ _ _ _ h k=>mk_eq.2<|Cg.add h k⟩
instance:Mul (Fx p):=⟨λx y=>akN x y (λA B=>mk (A.1*B.1)<|A.2.mul B.2)<|λ_ _ _ _ h k=>mk_eq.2<|Cg.mul h k⟩
instance:Neg (Fx p):=⟨λx=>akO x (λA=>mk (-A.1) A.2.neg)<|λ_ _ h=>mk_eq.2<|Cg.neg h⟩
instance:_root_.Sub (Fx p):=⟨λx y=>x+ -y⟩
instance:OfNat (Fx p) 0:=⟨mk 0<|aU.zero p⟩
instance:OfNat (Fx p) 1:=⟨mk 1<|aU.one p⟩
def Zg{a B}{b:aU p a}{k:aU p B}:mk a b+mk B k=mk (a+B) (b.add k):=rfl
def Zh{a B}{b:aU p a}{k:aU p B}:mk a b*mk B k=mk (a*B) (b.mul k):=rfl
def mk_congr{a B}(b:a=B)(c:aU p a)(k:aU p B):mk a c=mk B k:=mk_eq.2<|Cg.of_eq b
def add_comm(x a:Fx p):x+a=a+x:=by obtain⟨A,h,rfl⟩:=ex x;obtain⟨B,k,rfl⟩:=ex a;exact mk_congr (PS.add_comm A B) _ _
def add_assoc(x a b:Fx p):x+a+b=x+(a+b):=by obtain⟨A,h,rfl⟩:=ex x;obtain⟨B,k,rfl⟩:=ex a;obtain⟨C,l,rfl⟩:=ex b;exact mk_congr (PS.add_assoc A B C) _ _
def mul_comm(x a:Fx p):x*a=a*x:=by obtain⟨A,h,rfl⟩:=ex x;obtain⟨B,k,rfl⟩:=ex a;exact mk_congr (PS.mul_comm A B) _ _
def mul_assoc(x a b:Fx p):x*a*b=x*(a*b):=by obtain⟨A,h,rfl⟩:=ex x;obtain⟨B,k,rfl⟩:=ex a;obtain⟨C,l,rfl⟩:=ex b;exact mk_congr (PS.mul_assoc A B C) _ _
def mul_add(x a b:Fx p):x*(a+b)=x*a+x*b:=by obtain⟨A,h,rfl⟩:=ex x;obtain⟨B,k,rfl⟩:=ex a;obtain⟨C,l,rfl⟩:=ex b;exact mk_congr (PS.mul_add A B C) _ _
def add_mul(x b a:Fx p):(x+b)*a=x*a+b*a:=by rw[mul_comm,mul_add,mul_comm a x,mul_comm a b]
def zero_add(x:Fx p):0+x=x:=by obtain⟨A,h,rfl⟩:=ex x;exact mk_congr (PS.zero_add A) ((aU.zero p).add h) h
def add_zero(x:Fx p):x+0=x:=by rw[add_comm,zero_add]
def one_mul(x:Fx p):1*x=x:=by obtain⟨A,h,rfl⟩:=ex x;exact mk_congr (PS.one_mul A) ((aU.one p).mul h) h
def mul_one(x:Fx p):x*1=x:=by rw[mul_comm,one_mul]
def zero_mul(x:Fx p):0*x=0:=by obtain⟨A,h,rfl⟩:=ex x;exact mk_congr (PS.zero_mul A) ((aU.zero p).mul h)<|aU.zero p
def mul_zero(x:Fx p):x*0=0:=by rw[mul_comm,zero_mul]
def add_neg(x:Fx p):x+ -x=0:=by obtain⟨A,h,rfl⟩:=ex x;exact mk_congr (PS.add_neg A) (h.add h.neg)<|aU.zero p
def neg_add(x:Fx p): -x+x=0:=by rw[add_comm,add_neg]
def sub_def(x a:Fx p):x-a=x+ -a:=rfl
instance:Std.Associative (α:=Fx p) (·+·):=⟨add_assoc⟩
instance:Std.Commutative (α:=Fx p) (·+·):=⟨add_comm⟩
instance:Std.Associative (α:=Fx p) (·*·):=⟨mul_assoc⟩
instance:Std.Commutative (α:=Fx p) (·*·):=⟨mul_comm⟩
def add_left_cancel{x a b:Fx p}(c:x+a=x+b):a=b:=by have:=aC (-x+·) c;simpa only[<-add_assoc,neg_add,zero_add]using this
def kL(x a:Fx p):x-a+a=x:=by rw[sub_def,add_assoc,neg_add,add_zero]
def xV(x a:Fx p):x+a-a=x:=by rw[sub_def,add_assoc,add_neg,add_zero]
def D1{x a b:Fx p}(c:x+a=b):x=b-a:=by rw[<-c,xV]
def sub_eq{x a b:Fx p}(c:x=b+a):x-a=b:=by rw[c,xV]
def sub_self(x:Fx p):x-x=0:=add_neg x
def sub_zero(x:Fx p):x-0=x:=sub_eq (add_zero x).symm
def Bu{x a:Fx p}(b:x-a=0):x=a:=by rw[<-kL x a,b,zero_add]
def sub_mul(x b a:Fx p):(x-b)*a=x*a-b*a:=D1 (by rw[<-add_mul,kL])
def mul_sub(x a b:Fx p):x*(a-b)=x*a-x*b:=by rw[mul_comm,sub_mul,mul_comm a,mul_comm b]
def neg_mul(x a:Fx p): -x*a= -(x*a):=add_left_cancel (x:=x*a) (by rw[<-add_mul,add_neg,add_neg,zero_mul])
def mul_neg(x a:Fx p):x* -a= -(x*a):=by rw[mul_comm,neg_mul,mul_comm]
def neg_sub(x a:Fx p): -(x-a)=a-x:=add_left_cancel (x:=x-a) (by rw[add_neg,sub_def,sub_def];have:x+ -a+(a+ -x)=(x+ -x)+(-a+a):=eT;rw[this,add_neg,neg_add,add_zero])
def Zi(x a b:Fx p):(x-a)+(a-b)=x-b:=by rw[sub_def,sub_def,sub_def];have:x+ -a+(a+ -b)=x+ -b+(-a+a):=eT;rw[this,neg_add,add_zero]
def RR(x c a b:Fx p):(x+c)-(a+b)=(x-a)+(c-b):=sub_eq (by have:x-a+(c-b)+(a+b)=(x-a+a)+(c-b+b):=eT;rw[this,kL,kL])
instance:Dvd (Fx p):=⟨λa b=>∃w,b=w*a⟩
def dvd_refl(a:Fx p):a∣a:=⟨1,(one_mul a).symm⟩
def dvd_zero(a:Fx p):a∣0:=⟨0,(zero_mul a).symm⟩
def dvd_trans{a b c:Fx p}(d:a∣b)(k:b∣c):a∣c:=by obtain⟨w,rfl⟩:=d;obtain⟨v,rfl⟩:=k;exact⟨v*w,(mul_assoc v w a).symm⟩
def dvd_mul_left(a b:Fx p):a∣b*a:=⟨b,J⟩
def dvd_mul_right(a b:Fx p):a∣a*b:=⟨b,mul_comm a b⟩
def dz{a b}(d:a∣b)(c:Fx p):a∣c*b:=dvd_trans d<|dvd_mul_left b c
def lQ{a b}(d:a∣b)(c:Fx p):a∣b*c:=dvd_trans d<|dvd_mul_right b c
def dvd_add{a b c:Fx p}(d:a∣b)(k:a∣c):a∣b+c:=by obtain⟨w,rfl⟩:=d;obtain⟨v,rfl⟩:=k;exact⟨w+v,(add_mul w v a).symm⟩
def dvd_neg{a b:Fx p}(c:a∣b):a∣-b:=by obtain⟨w,rfl⟩:=c;exact⟨-w,(neg_mul w a).symm⟩
def dvd_sub{a b c:Fx p}(d:a∣b)(k:a∣c):a∣b-c:=dvd_add d<|dvd_neg k
def uR{a b c:Fx p}(d:a∣b+c)(k:a∣b):a∣c:=by have:=dvd_sub d k;rwa[add_comm b c,xV]at this
def D2{a b c:Fx p}(d:a∣b-c)(k:a∣c):a∣b:=by have:=dvd_add d k;rwa[kL]at this
def kM{a b c:Fx p}(d:a∣b-c):a∣c-b:=by rw[<-neg_sub];exact dvd_neg d
def lR{a b c d:Fx p}(f:a∣b-c)(k:a∣c-d):a∣b-d:=by rw[<-Zi b c d];exact dvd_add f k
def L5{a b c d f:Fx p}(g:a∣b-c)(k:a∣d-f):a∣(b+d)-(c+f):=by rw[RR];exact dvd_add g k
def pJ{a b c d f:Fx p}(g:a∣b-c)(k:a∣d-f):a∣b*d-c*f:=by
 have:b*d-c*f=(b-c)*d+c*(d-f):=by rw[sub_mul,mul_sub,Zi]
 rw[this];exact dvd_add (lQ g d)<|dz k c
def nT(a b:Fx p):a∣b-b:=by rw[sub_self];exact dvd_zero a
def pk(a:Fx p):I->Fx p
 |0=>1
 |n+1=>pk a n*a
def rT(a:Fx p):pk a 1=a:=one_mul a
def rU(a:Fx p)(m:I):∀n,pk a (m+n)=pk a m*pk a n
 |0=>(mul_one _).symm
 |n+1=>by rw[<-qv,pk,pk,rU a m n,mul_assoc]
def rV(a:Fx p)(m:I):∀n,pk a (m*n)=pk (pk a m) n
 |0=>rfl
 |n+1=>by rw[D3,rU,pk,rV a m n]
def qK(a b:Fx p):∀n,pk (a*b) n=pk a n*pk b n
 |0=>(one_mul 1).symm
 |n+1=>by rw[pk,pk,pk,qK a b n];ac_rfl
def wg:∀n,pk (1:Fx p) n=1
 |0=>rfl
 |n+1=>by rw[pk,wg n,one_mul]
def L6{n}(a:0<n):pk (0:Fx p) n=0:=by obtain⟨m,rfl⟩:∃m,n=m+1:=⟨n-1,S⟩;rw[pk,mul_zero]
def uS{a b c:Fx p}(d:a∣b-c):∀n,a∣pk b n-pk c n
 |0=>nT a 1
 |n+1=>pJ (uS d n) d
def L7{a:PS}(b:aU p a):∀n(k:aU p (pw a n)),mk (pw a n) k=pk (mk a b) n
 |0,_=>rfl
 |n+1,k=>by
  have c:aU p (pw a n):=by
   clear k;induction n with
   |zero=>exact aU.one p
   |succ n d=>exact d.mul b
  rw[pk,<-L7 b n c,Zh];rfl
def L8{a:PS}(b:aU p a):∀n,aU p (pw a n)
 |0=>aU.one p
 |n+1=>(L8 b n).mul b
def K(c:Z):Fx p:=mk (PS.K c)<|aU.K p c
def xW k:aU p (PS.X k):=⟨_,akm p k⟩
def X:Fx p:=mk (PS.X 1)<|xW 1
def fx(a:V Z):Fx p:=mk (h a)<|aU.ps p a
def pE a b:(K (a+b):Fx p)=K a+K b:=mk_congr (PS.pE a b) _ _
def eS a b:(K (a*b):Fx p)=K a*K b:=mk_congr (PS.rQ a b) _ _
def l3:(K 0:Fx p)=0:=mk_congr PS.l3 _ _
def l4:(K 1:Fx p)=1:=rfl
def zy a:(K (-a):Fx p)= -K a:=add_left_cancel (x:=K a) (by rw[<-pE,Int.add_right_neg,l3,add_neg])
def D4 a b:(K (a-b):Fx p)=K a-K b:=by rw[GZ,pE,zy,sub_def]
def rW{a b}(c:a%p=b%p):(K a:Fx p)=K b:=mk_eq.2<|Cg.K c
def L9{a b}(c:(K a:Fx p)=K b):a%p=b%p:=(mk_eq.1 c).at 0
def K_p:(K p:Fx p)=0:=mk_eq.2<|Cg.Km p
def L'(a:Z):∀n,pk (K a:Fx p) n=K (a^n)
 |0=>by rw[oQ,l4];rfl
 |n+1=>by rw[pk,L' a n,dK,eS]
def jX:(fx []:Fx p)=0:=mk_congr tn _ _
def uT:(fx [1]:Fx p)=1:=mk_congr zt _ _
def Hy c:(fx [c]:Fx p)=K c:=mk_congr (PS.ext λi=>by
 cases i with
 |zero=>rfl
 |succ i=>rfl) _ _
def akQ c a:h (c::a)=PS.K c+PS.X 1*h a:=PS.ext λi=>by
 rw[PS.eR,PS.nP];cases i with
 |zero=>rw[M S];show c=PS.K c 0+0;rw[PS.K,s J];omega
 |succ i=>rw[s S];show Y a i 0=PS.K c (i+1)+Y a i 0;rw[PS.K,M S];omega
def D5 c a:(fx (c::a):Fx p)=K c+X*fx a:=mk_congr (akQ c a) _ _
def Ma{a b}(c:Cg p (h a) (h b)):(fx a:Fx p)=fx b:=mk_eq.2 c
def rX a b:(fx (bT a b p):Fx p)=fx a*fx b:=mk_eq.2<|rS a b p
def pK a:(fx (au a):Fx p)=fx a:=mk_congr (nR a) _ _
def D6 a:(fx (md p a):Fx p)=fx a:=mk_eq.2<|LU p a
def RS a b:(fx (au<|hZ a b p):Fx p)=fx a-fx b:=(show mk _ (aU.ps p _)=mk _ ((aU.ps p a).sub<|aU.ps p b)from mk_eq.2<|Y5 a b p).trans<|mk_congr (PS.sub_def _ _) _<|(aU.ps p a).add (aU.ps p b).neg
def pL{a b}(c:aY p a)(d:aY p b)(f:(fx a:Fx p)=fx b):a=b:=Bq c d<|mk_eq.1 f
def Zj{a b}(c:(fx a:Fx p)=fx b) i:Y a i 0%p=Y b i 0%p:=(mk_eq.1 c).at i
def kc(c:0<p)(b:Fx p):∃a,aY p a/\fx a=b:=by
 obtain⟨b,⟨n,f⟩,rfl⟩:=ex b;have d:∀i,Y ((be n).map λi=>b i%p) i 0=if i<n then b i%p else 0:=λi=>by
  rw[aF,gj];by_cases e:i<n
  .rw[s e,jW e];rfl
  .rw[M e,lG bP];rfl
 refine⟨au<|(be n).map λi=>b i%p,gH c<|λi=>?_,?_⟩
 .rw[d];split
  .exact⟨fS _ S,gA _ c⟩
  .exact⟨gk _,c⟩
 .rw[pK];refine mk_eq.2<|Cg.of λi=>?_;rw[cc,d];split
  .rw[jJ]
  .rw[f i S,dj]
open Classical in
noncomputable def sz(b:Fx p):I:=if h:∃a,aY p a/\fx a=b then G (Classical.choose h)else 0
def bO{a}(c:aY p a):sz (fx a:Fx p)=G a:=by have h:∃b,aY p b/\(fx b:Fx p)=fx a:=⟨a,c,J⟩;unfold sz;rw[dif_pos h];have d:=qL h;rw[pL d.1 c d.2]
def xX{n}(d:0<p){b}(c:aU p b)(f:Dl p n b):sz (mk b c)<=n:=by let ⟨a,ha,e⟩:=kc d<|mk b c;rw[<-e,bO ha];exact ha.len<|f.cg (mk_eq.1 e).symm
def RT(b:0<p) a:sz (fx a:Fx p)<=G a:=xX b _<|iN p a
def kd(a:0<p):sz (0:Fx p)=0:=by rw[<-jX,bO<|nS a];rfl
def D7(a:0<p) c:sz (K c:Fx p)<=1:=xX a _<|Ro p c
def RU(d:0<p){b:Fx p}(c:sz b=0):b=0:=by obtain⟨a,f,rfl⟩:=kc d b;rw[bO f]at c;rw[et c,jX]
def dX(b:0<p){a:Fx p}(c:a≠0):0<sz a:=by
 rcases qF (sz a)with e|e
 .exact absurd (RU b e) c
 .exact e
def RV(c:0<p)(d B:Fx p):sz (d+B)<=max (sz d) (sz B):=by obtain⟨a,f,rfl⟩:=kc c d;obtain⟨b,g,rfl⟩:=kc c B;rw[bO f,bO g];exact xX c _<|((iN p a).le S).add<|(iN p b).le S
def RW(c:0<p)(b:Fx p):sz (-b)<=sz b:=by obtain⟨a,d,rfl⟩:=kc c b;rw[bO d];exact xX c _ (iN p a).neg
def Bv(b:0<p)(a B:Fx p):sz (a-B)<=max (sz a) (sz B):=by have c:=RV b a<| -B;have d:=RW b B;rw[sub_def];omega
end Fx
structure aX(p:I):Prop where
 hp:cE p
 le:p<=2147483648
def aX.pos{p}(H:aX p):(0:Z)<(p:Z):=qM
def aX.one{p}(H:aX p):(1:Z)%(p:Z)=1:=by have:=H.hp.1;exact gT A S
namespace Fx
variable{p:I}
def nn(H:aX p):(1:Fx p)≠0:=λe=>by rw[<-l4,<-l3]at e;have:=L9 e;rw[H.one,dj]at this;cases this
def ov(H:aX p){c}(a:c%(p:Z)≠0):∃d,(K d*K c:Fx p)=1:=by have b:=fS c (show(p:Z)≠0 by have:=H.pos;omega);have f:=gA c H.pos;have e:(K c:Fx p)=K (c%(p:Z)):=rW (by rw[jJ]);refine⟨((eQ (ad<|c%(p:Z)) (ad ((p:I):Z)):I):Z),?_⟩;rw[e,<-eS,<-l4];refine rW ?_;rw[ew,we H.hp H.le b f a,H.one]
def ts(H:aX p){c}(b:c%(p:Z)≠0):(K c:Fx p)≠0:=λe=>by let ⟨d,a⟩:=ov H b;rw[e,mul_zero]at a;exact nn H a.symm
def dE(H:aX p){c B:Fx p}(v:c≠0)(x:B≠0):sz (c*B)+1=sz c+sz B:=by
 obtain⟨a,g,rfl⟩:=kc H.pos c;obtain⟨b,i,rfl⟩:=kc H.pos B;have C:=dX H.pos v;have E:=dX H.pos x;rw[bO g]at C⊢;rw[bO i]at E⊢;obtain⟨n,k⟩:∃n,G a=n+1:=⟨G a-1,S⟩;obtain⟨m,l⟩:∃m,G b=m+1:=⟨G b-1,S⟩;have d:=iN (p:Z) a;have f:=iN (p:Z) b;rw[k]at d⊢;rw[l]at f⊢;have F:=xX H.pos ((aU.ps (p:Z) a).mul<|aU.ps p b)<|d.mul f;rw[<-rX,bO<|je H.pos a b];have r:=xS H.hp d f (g.top k)<|i.top l;have K:=(rS a b (p:Z)).at (n+m);have P:G (bT a b (p:Z))<=n+(m+1):=by have e:sz (fx (bT a b p):Fx p)=G (bT a b p):=bO<|je H.pos a b;rw[rX]at e;rw[<-e];exact F
 by_cases e:G (bT a b (p:Z))<=n+m
 .exfalso;rw[<-K,cc,cF _ e,dj]at r;exact r J
 .omega
def nQ(H:aX p){a B:Fx p}(b:a≠0)(c:B≠0):a*B≠0:=λe=>by have h:=dE H b c;rw[e,kd H.pos]at h;have d:=dX H.pos b;have f:=dX H.pos c;omega
def qN(H:aX p){A B C:Fx p}(a:A≠0)(b:B*A=C*A):B=C:=by
 refine Bu ?_;refine dQ λc=>?_
 exact nQ H c a (by rw[sub_mul,b,sub_self])
def np(H:aX p):sz (1:Fx p)=1:=by have a:=D7 H.pos 1 (p:=(p:Z));have b:=dX H.pos<|nn H;rw[l4]at a;omega
def D8(H:aX p){d:Fx p}(f:sz d=1):∃c:Z,c%(p:Z)≠0/\d=K c:=by
 obtain⟨a,b,rfl⟩:=kc H.pos d;rw[bO b]at f;match a,f,b with
 |[c],_,b=>exact⟨c,b.top (n:=0) J,Hy c⟩
def tu(H:aX p){a}(b:sz a=1):∃B:Fx p,B*a=1:=by obtain⟨c,f,rfl⟩:=D8 H b;let ⟨d,g⟩:=ov H f;exact⟨_,g⟩
def xY(H:aX p){a B:Fx p}(b:B*a=1):sz a=1:=by
 have c:a≠0:=λe=>nn H (by rw[<-b,e,mul_zero])
 have d:B≠0:=λe=>nn H (by rw[<-b,e,zero_mul])
 have f:=dE H d c;rw[b,np H]at f;have g:=dX H.pos c;have i:=dX H.pos d;omega
def dvd_one(H:aX p){a:Fx p}(b:a∣1):sz a=1:=by let ⟨w,hw⟩:=b;exact xY H hw.symm
def fV(H:aX p){a B:Fx p}(d:a∣B)(b:B≠0):sz a<=sz B:=by
 obtain⟨w,rfl⟩:=d;have c:w≠0:=λe=>b Hz
 have f:a≠0:=λe=>b (by rw[e,mul_zero])
 have g:=dE H c f;have pw:=dX H.pos c;omega
def rY(H:aX p){A B:Fx p}(a:A∣B)(b:sz B<sz A):B=0:=
 dQ λc=>by have:=fV H a c;omega
def RX(H:aX p) d{B:Fx p}(i:B≠0):∃Q R,d=Q*B+R/\sz R<sz B:=by
 obtain⟨a,f,rfl⟩:=kc H.pos d;obtain⟨b,g,rfl⟩:=kc H.pos B;have c:b≠[]:=λe=>i (by rw[e,jX])
 let ⟨d1,d2,d3,d4,d5,d6⟩:=iO H.hp H.le f.1 g c;refine⟨fx (aJ a b p).1,fx (aJ a b p).2,mk_eq.2 d1,?_⟩;rw[bO g,bO<|d5 f];have:=bX.2 c;omega
def zz(H:aX p):∀(n:I)(b B:Fx p),sz B<n->∃c U a,c∣b/\c∣B/\c=U*b+a*B
 |0,_,_,i=>by omega
 |n+1,b,B,i=>by
  by_cases d:B=0
  .subst d;exact⟨b,1,0,dvd_refl b,dvd_zero b,by rw[one_mul,mul_zero,add_zero]⟩
  .let ⟨Q,R,f,h2⟩:=RX H b d;let ⟨c,U,a,g,k,l⟩:=zz H n B R S;refine⟨c,a,U-a*Q,?_,g,?_⟩
   .rw[f];exact dvd_add (dz g Q) k
   .rw[l,f,mul_add,sub_mul];have:a*(Q*B)+a*R+(U*B-a*Q*B)=(U*B-a*Q*B+a*Q*B)+a*R:=eT;rw[this,kL]
def Co(a B:Fx p):Prop:=∃U V,U*a+V*B=1
def Co.symm{b B:Fx p}(a:Co b B):Co B b:=by let ⟨U,V,a⟩:=a;exact⟨V,U,by rw[add_comm];exact a⟩
def D9{a b}:Co (fx a:Fx p) (fx b)↔fU p (h a) (h b):=by
 constructor
 .rintro⟨U,V,f⟩;obtain⟨U,c,rfl⟩:=ex U;obtain⟨V,d,rfl⟩:=ex V;exact⟨U,V,c,d,mk_eq.1 (f:mk _ ((c.mul<|aU.ps p a).add<|d.mul<|aU.ps p b)=mk 1 (aU.one p))⟩
 .rintro⟨U,V,c,d,f⟩;exact⟨mk U c,mk V d,mk_eq.2 f⟩
def Co.dvd{a B C:Fx p}(b:Co a B)(k:a∣B*C):a∣C:=by
 let ⟨U,V,b⟩:=b;have:C=C*U*a+V*(B*C):=by have c:C*(U*a)+C*(V*B)=C*U*a+V*(B*C):=eT;rw[<-c,<-mul_add,b,mul_one]
 rw[this];exact dvd_add (dvd_mul_left a _)<|dz k V
def Co.Mb{a B C:Fx p}(c:Co a B)(b:a∣C)(kb:B∣C):a*B∣C:=by obtain⟨w,rfl⟩:=kb;rw[mul_comm w B]at b;obtain⟨v,rfl⟩:=c.dvd b;exact⟨v,eT⟩
def Co.mul{a B C:Fx p}(b:Co a B)(k:Co a C):Co a (B*C):=by
 let ⟨U,V,b⟩:=b;let ⟨c,d,k⟩:=k;refine⟨U*c*a+U*(d*C)+V*B*c,V*d,?_⟩;have:(U*a+V*B)*(c*a+d*C)=1:=by rw[b,k,one_mul]
 rw[<-this];simp only[mul_add,add_mul];ac_rfl
def Co.unit{a B:Fx p}(H:aX p)(b:Co a B)(k:a∣B):sz a=1:=by let ⟨U,V,b⟩:=b;exact dvd_one H<|b▸dvd_add (dvd_mul_left a U) (dz k V)
def bw(Q:Fx p):Prop:=2<=sz Q/\∀A B,Q=A*B->sz A=1\/sz B=1
def bw.ne{Q:Fx p}(H:aX p)(a:bw Q):Q≠0:=λe=>by have:=a.1;rw[e,kd H.pos]at this;omega
def bw.or{Q}(H:aX p)(c:bw Q)(a:Fx p):Q∣a\/Co Q a:=by
 let ⟨D,U,V,d,h2,f⟩:=zz H _ Q a<|di _;let ⟨w,hw⟩:=d;rcases c.2 _ _ hw with e|e
 .let ⟨B,b⟩:=tu H e;left;refine dvd_trans ⟨B,?_⟩ h2;rw[hw,<-mul_assoc,b,one_mul]
 .let ⟨B,b⟩:=tu H e;right;refine⟨B*U,B*V,?_⟩;rw[<-b,f,mul_add,mul_assoc,mul_assoc]
def bw.uU{Q:Fx p}(H:aX p)(a:bw Q):¬Q∣1:=λe=>by have:=dvd_one H e;have:=a.1;omega
def bw.nq{Q}(H:aX p)(b:bw Q){a B:Fx p}(k:Q∣a*B):Q∣a\/Q∣B:=by
 rcases b.or H a with e|e
 .exact .inl e
 .exact .inr<|e.dvd k
def bw.Zk{Q:Fx p}(H:aX p)(a:bw Q){c}(k:Q∣K c):c%(p:Z)=0:=
 dQ λb=>by let ⟨d,f⟩:=ov H b;exact a.uU H<|f▸dz k (K d)
def qO(H:aX p):∀(n:I)(a:Fx p),sz a<n->2<=sz a->∃Q,bw Q/\Q∣a
 |0,_,k,_=>by omega
 |n+1,a,k,h2=>by
  by_cases c:bw a
  .exact⟨a,c,dvd_refl a⟩
  .have:∃B C,a=B*C/\¬(sz B=1\/sz C=1):=dQ λl=>c ⟨h2,λB C e=>dQ λd=>l ⟨B,C,e,d⟩⟩
   let ⟨B,C,e,d⟩:=this;have f:a≠0:=λe=>by rw[e,kd H.pos]at h2;omega
   have g:B≠0:=λb=>f (by rw[e,b,zero_mul])
   have i:C≠0:=λb=>f (by rw[e,b,mul_zero])
   have m:=dE H g i;rw[<-e]at m;have x:=dX H.pos g;have E:=dX H.pos i;let ⟨Q,r,v⟩:=qO H n B S S;exact⟨Q,r,by rw[e];exact lQ v C⟩
def xZ(H:aX p){a B:Fx p}(d:a≠0)(f:∀Q,bw Q->Q∣a->Q∣B->False):Co a B:=by
 let ⟨D,U,V,b,h2,g⟩:=zz H _ a B<|di _;have i:D≠0:=λe=>by let ⟨w,hw⟩:=b;rw[e,mul_zero]at hw;exact d hw
 have m:=dX H.pos i;by_cases e:sz D=1
 .let ⟨C,k⟩:=tu H e;refine⟨C*U,C*V,?_⟩;rw[<-k,g,mul_add,mul_assoc,mul_assoc]
 .let ⟨Q,l,c⟩:=qO H _ D (di _) S;exact(f Q l (dvd_trans c b)<|dvd_trans c h2).elim
def DW(H:aX p)(a B:Fx p):pk (a+B) p=pk a p+pk B p:=by obtain⟨a,b,rfl⟩:=ex a;obtain⟨B,c,rfl⟩:=ex B;rw[Zg,<-L7 (b.add c) _ (L8 (b.add c) _),<-L7 b _ (L8 b _),<-L7 c _ (L8 c _),Zg];exact mk_eq.2<|H.hp.DW a B
def zr(H:aX p) c:pk (K c:Fx p) p=K c:=by have b:=fS c (show(p:Z)≠0 by have:=H.pos;omega);let ⟨a,ha⟩:=xK b;have e:(K c:Fx p)=K (a:Z):=rW (by rw[<-ha,jJ]);rw[e,L'];exact rW<|H.hp.zr a
def Mc(H:aX p)(a B:Fx p):∀i,pk (a+B) (p^i)=pk a (p^i)+pk B (p^i)
 |0=>by simp only[oo,rT]
 |i+1=>by rw[fy,rV,rV,rV,Mc H a B i,DW H]
def RY(H:aX p)(c:Z):∀i,pk (K c:Fx p) (p^i)=K c
 |0=>rT _
 |i+1=>by rw[fy,rV,RY H c i,zr H]
def ev:V (Fx p)->Fx p->Fx p
 |[],_=>1
 |c::cs,a=>c+a*ev cs a
def Zl(a:Fx p):∀(d:V (Fx p))(c:Fx p),∃f:V (Fx p),G f=G d/\∀b,ev (c::d) b=ev (c::d) a+(b-a)*ev f b
 |[],c=>⟨[],J,λb=>by show c+b*1=c+a*1+(b-a)*1;rw[mul_one,mul_one,mul_one,add_assoc,add_comm a,kL]⟩
 |g::d,c=>by let ⟨f,h1,h2⟩:=Zl a d g;refine⟨ev (g::d) a::f,zA,λb=>?_⟩;show c+b*ev (g::d) b=c+a*ev (g::d) a+(b-a)*(ev (g::d) a+b*ev f b);rw[h2 b];generalize ev (g::d) a=w;generalize ev f b=v;rw[mul_add,mul_add,add_assoc c,<-add_assoc (a*w),<-add_mul a,add_comm a,kL];congr 2;ac_rfl
def roots(H:aX p){Q:Fx p}(l:bw Q):∀(f:V (Fx p))(g:V (Fx p)),G f<G g->(∀d∈g,Q∣ev f d)->g.Pairwise (λa b=>¬Q∣a-b)->False
 |_,[],i,_,_=>by simp at i
 |[],d::_,_,i,_=>l.uU H<|i d ax
 |c::f,r::g,hl,i,hp=>by
  let ⟨ds,B,h2⟩:=Zl r f c;let ⟨m,n⟩:=im.1 hp;have x:=i r ax;have k:G ds<G g:=by simp only[fu]at hl;omega
  refine roots H l ds g k (λd hy=>?_) n;have v:=i d mV;rw[h2 d]at v;rcases l.nq H (uR v x)with e|e
  .exact absurd (kM e)<|m d hy
  .exact e
termination_by f=>G f
decreasing_by simp only[fu];omega
def Zm(a:Fx p):∀m,ev (bh m 0) a=pk a m
 |0=>rfl
 |m+1=>by rw[uc,ev,Zm a m,zero_add,pk,mul_comm]
def Zn m(a:Fx p):ev (0:: -1::bh m 0) a=pk a (m+2)-a:=by rw[ev,ev,Zm,zero_add,mul_add,mul_neg,mul_one,pk,pk,sub_def,add_comm];congr 1;ac_rfl
def Zo(H:aX p){Q d:Fx p}(i:bw Q)(l:Q∣pk d p-d):∃a:I,a<p/\Q∣d-K (a:Z):=by
 refine dQ λn=>?_
 have C:=H.hp.1;obtain⟨m,rfl⟩:∃m,p=m+2:=⟨p-2,S⟩;refine roots H i (0:: -1::bh m 0) (d::(be<|m+2).map λ(a:I)=>K (a:Z)) ax (λy c=>?_) ?_
 .rw[Zn];rcases df.1 c with rfl|c
  .exact l
  .obtain⟨a,_,rfl⟩:=kY.1 c;rw[zr H,sub_self];exact dvd_zero Q
 .refine im.2 ⟨λy c=>?_,?_⟩
  .obtain⟨a,g,rfl⟩:=kY.1 c;exact λf=>n ⟨a,jO.1 g,f⟩
  .refine wh.2<|Ea ?_ FA;intro a b g r v f;rw[<-D4]at f;have x:=i.Zk H f;have:=jO.1 g;have:=jO.1 r;have B:((m+2:I):Z)∣(a:Z)-b:=Bk x;let ⟨k,E⟩:=B;rcases Int.lt_trichotomy k 0 with e|e|e
   .have:((m+2:I):Z)*k<=((m+2:I):Z)*(-1):=ja S S;omega
   .subst e;omega
   .have:((m+2:I):Z)*1<=((m+2:I):Z)*k:=ja S S;omega
def tv(p:I):I->I->V Z
 |0,_=>[]
 |n+1,k=>((k%p:I):Z)::tv p n (k/p)
def Zp(p:I):∀n k,G (tv p n k)=n
 |0,_=>rfl
 |n+1,k=>by rw[tv,fu,Zp p n]
def Zq{p:I}(a:0<p):∀n k l,k<p^n->l<p^n->(∀i,Y (tv p n k) i 0%(p:Z)=Y (tv p n l) i 0%(p:Z))->k=l
 |0,k,l,b,c,_=>by rw[oo]at b c;omega
 |n+1,k,l,b,c,d=>by
  have f:=d 0;simp only[tv,List.getD_cons_zero]at f;have g:k%p=l%p:=by have:=fg k a;have:=fg l a;rw[gT S S,gT S S]at f;omega
  have m:=Zq a n (k/p) (l/p) (Db<|by rw[fR,<-fy];exact b) (Db<|by rw[fR,<-fy];exact c) (λi=>by simpa only[tv,Po]using d (i+1));rw[<-sZ k p,<-sZ l p,g,m]
def Zr(H:aX p){Q:Fx p}{i:I}(a:Q∣pk X (p^i)-X):∀l:V Z,Q∣pk (fx l) (p^i)-fx l
 |[]=>by rw[jX,L6<|lN qM,sub_self];exact dvd_zero Q
 |c::l=>by rw[D5,Mc H,RY H,qK];exact L5 (nT Q _)<|pJ a<|Zr H a l
def Zs(H:aX p){Q:Fx p}(l:bw Q){i}(n:0<i)(R:i+1<sz Q):¬Q∣pk X (p^i)-X:=λh=>by
 have r:=H.hp.1;have c:0<p:=S;have v:2<=p^i:=cQ r (by rw[<-Nat.pow_one p,<-wc,iL];exact fG c n);have x:p^i<p^(i+1):=RZ S S;obtain⟨m,d⟩:∃m,p^i=m+2:=⟨p^i-2,S⟩;refine roots H l (0:: -1::bh m 0) ((be<|p^i+1).map λk=>fx<|tv p (i+1) k) (by simp[d]) (λy B=>?_) ?_
 .rw[Zn,<-d];obtain⟨k,_,rfl⟩:=kY.1 B;exact Zr H h _
 .refine wh.2<|Ea ?_ FA;intro a b f g C E;have f:=jO.1 f;have g:=jO.1 g;have F:=rY H E (by have U:=Bv H.pos (fx (tv p (i+1) a):Fx p)<|fx<|tv p (i+1) b;have K:=RT H.pos<|tv p (i+1) a;have P:=RT H.pos<|tv p (i+1) b;rw[Zp]at K P;omega);have:=Zq c (i+1) a b S S<|λj=>Zj (Bu F) j;omega
end Fx
namespace Fx
variable{p:I}
def jz(F:Fx p):Prop:=∀Q,bw Q->¬Q*Q∣F
def jz.of_dvd{F a:Fx p}(b:jz F)(k:a∣F):jz a:=λQ c d=>b Q c<|dvd_trans d k
def tx{a B C b:Fx p}(c:a∣B)(k:C∣b):a*C∣B*b:=by obtain⟨w,rfl⟩:=c;obtain⟨v,rfl⟩:=k;exact⟨w*v,eT⟩
def tA(H:aX p){c}(a:c%(p:Z)≠0):sz (K c:Fx p)=1:=by let ⟨d,b⟩:=ov H a;exact xY H b
def Zt(H:aX p){a:Fx p}(g:2<=sz a){c}(d:a∣K c):c%(p:Z)=0:=
 dQ λb=>by have f:=fV H d<|ts H b;rw[tA H b]at f;omega
def zB(p:I)(a:Fx p)(b:Z):Fx p:=if p=2 then a+K b else pk (a+K b) ((p-1)/2)-1
def sep(H:aX p){F g}(h2:2<=sz F)(hs:jz F)(hV:F∣pk g p-g)(hn:∀c,¬F∣g-K c):
  ∃d:I,d<p/\∃n f,bw n/\bw f/\n∣F/\f∣F/\n∣zB p g d/\¬f∣zB p g d:=by
 have Y:=H.hp.1
 have hF:F≠0:=λe=>by rw[e,kd H.pos]at h2;omega
 let ⟨n,i1,d1⟩:=qO H _ F (di _) h2
 let ⟨a,ha,o⟩:=Zo H i1<|dvd_trans d1 hV
 obtain⟨f,i,r,N⟩:∃f,bw f/\f∣F/\¬f∣g-K (a:Z):=by
  let ⟨D,U,U',g1,g2,g3⟩:=zz H _ F (g-K (a:Z))<|di _;let ⟨W,X⟩:=g1;have q:W≠0:=λe=>hF (by rw[X,e,zero_mul])
  have hW1:sz W≠1:=λe=>hn a (by let ⟨C,hC⟩:=tu H e;refine dvd_trans ⟨C,?_⟩ g2;rw[X,<-mul_assoc,hC,one_mul])
  have hW2:=dX H.pos q;let ⟨f,i,r⟩:=qO H _ W (di _) S;have O:f∣F:=by rw[X];exact lQ r D
  refine⟨f,i,O,λt=>hs f i ?_⟩;have d4:f∣D:=by rw[g3];exact dvd_add (dz O U)<|dz t U'
  rw[X];exact tx r d4
 by_cases w:p=2
 .have e:(K (((p-a)%p:I):Z):Fx p)= -K (a:Z):=by rw[<-zy];refine rW ?_;rw[DJ,jJ,Int.ofNat_sub S,GZ,Int.add_emod_left]
  refine⟨(p-a)%p,fg _ S,n,f,i1,i,d1,r,?_,?_⟩
  .rw[zB,s w,e];exact o
  .rw[zB,s w,e];exact N
 .let ⟨b,hb,y⟩:=Zo H i<|dvd_trans r hV;let m:=(p-1)/2;have hm:0<m:=by show 0<(p-1)/2;omega
  have l:∀{Q:Fx p}{c:I}(d:Z),bw Q->Q∣g-K (c:Z)->(Q∣zB p g d↔pk (K ((c:Z)+d):Fx p) m=1):=by
   intro Q c d hQ hc;have T:Q∣(g+K d)-K ((c:Z)+d):=by rw[pE];exact L5 hc<|nT Q _
   have x:=uS T m;rw[zB,M w];constructor
   .intro h;have j:=lR (kM x) h;rw[L',<-l4,<-D4]at j;have h5:=hQ.Zk H j;rw[L',<-l4];exact rW<|zp.2 h5
   .intro h;rw[h]at x;exact x
  refine dQ λB=>?_
  have E:∀d:I,d<p->(pk (K ((a:Z)+d):Fx p) m=1↔pk (K ((b:Z)+d):Fx p) m=1):=by
   intro d P;constructor
   .intro h;refine dQ λz=>B ⟨d,P,n,f,i1,i,d1,r,(l d i1 o).2 h,λA=>z<|(l d i y).1 A⟩
   .intro h;refine dQ λG=>B ⟨d,P,f,n,i,i1,r,d1,(l d i y).2 h,λA=>G<|(l d i1 o).1 A⟩
  have v:∀u:Z,pk (K u:Fx p) m=1->pk (K (u+((b:Z)-a)):Fx p) m=1:=by
   intro u hu;have J:=fS (u-a) (S:(p:Z)≠0);have T:=gA (u-a) (S:(0:Z)<(p:Z));let ⟨d,R⟩:=xK J;have e1:(K u:Fx p)=K ((a:Z)+d):=by refine rW ?_;rw[<-R,Int.add_emod_emod];congr 1;omega
   have L:(K (u+((b:Z)-a)):Fx p)=K ((b:Z)+d):=by refine rW ?_;rw[<-R,Int.add_emod_emod];congr 1;omega
   rw[L];exact(E d S).1 (by rw[<-e1];exact hu)
  have all:∀k:I,pk (K (1+(k:Z)*((b:Z)-a)):Fx p) m=1:=by
   intro k;induction k with
   |zero=>rw[Int.natCast_zero,ko,mT,l4,wg]
   |succ k ih=>
    have:=v _ ih
    rwa[Int.add_assoc,show(k:Z)*((b:Z)-a)+((b:Z)-a)=((k+1:I):Z)*((b:Z)-a)by rw[uG,nb];simp]at this
  have t:((b:Z)-a)%(p:Z)≠0:=λe=>N (by have L:(K (b:Z):Fx p)=K (a:Z):=rW<|zp.2 e;rw[<-L];exact y)
  let ⟨e,he⟩:=ov H t;have J:=fS (-e) (S:(p:Z)≠0);let ⟨k,hk⟩:=xK J;have x:=all k;have j:(K (1+(k:Z)*((b:Z)-a)):Fx p)=0:=by
   have e5:(K (k:Z):Fx p)= -K e:=by rw[<-zy];exact rW (by rw[<-hk,jJ])
   rw[pE,eS,e5,neg_mul,he,l4,add_neg]
  rw[j,L6 hm]at x;exact nn H x.symm
def akR(H:aX p){F a:Fx p}(hF:F≠0)(hs:jz F)(hG:a∣F)(P:2<=sz a)(hw:∀k,F∣pk k p-k->∃c,a∣k-K c):bw a:=by
 have o:=H.hp.1;refine⟨P,λA B e=>dQ λW=>?_⟩;have b:a≠0:=λe=>by rw[e,kd H.pos]at P;omega
 have d:A≠0:=λl=>b (by rw[e,l,zero_mul])
 have m:B≠0:=λl=>b (by rw[e,l,mul_zero])
 have J:=dX H.pos d;have L:=dX H.pos m;have n:2<=sz A:=by
  by_cases h:sz A=1
  .exact absurd (.inl h) W
  .omega
 have r:2<=sz B:=by
  by_cases h:sz B=1
  .exact absurd (.inr h) W
  .omega
 let ⟨R,s⟩:=hG;have X:F=A*(B*R):=by rw[s,e];ac_rfl
 have v:Co A (B*R):=xZ H d λQ t q1 u=>hs Q t (by rw[X];exact tx q1 u)
 let ⟨U,V,f⟩:=v;have x:A∣U*A:=dvd_mul_left A U;have C:B*R∣U*A-1:=by refine kM ?_;rw[<-f,add_comm,xV];exact dvd_mul_left _ V
 have E:F∣pk (U*A) p-U*A:=by
  rw[X];refine Co.Mb ⟨U,V,f⟩ ?_ ?_
  .refine dvd_sub ?_ x;obtain⟨q,rfl⟩:∃q,p=q+1:=⟨p-1,S⟩;exact dz x _
  .have:=uS C p;rw[wg]at this;exact lR this<|kM C
 let ⟨c,g⟩:=hw _ E;have y:A∣K c:=by have i:A∣U*A-K c:=dvd_trans (by rw[e];exact dvd_mul_right A B) g;exact D2 (kM i) x
 have z:B∣K (c-1):=by have i:B∣U*A-K c:=dvd_trans (by rw[e];exact dvd_mul_left B A) g;rw[D4,l4];exact lR (kM i)<|dvd_trans (dvd_mul_right B R) C
 have D:=Zt H n y;have I:=Zt H r z;have i:=H.one;have j:=tq c (c-1) p;rw[D,I,(S:c-(c-1)=1),i]at j;simp at j
end Fx
def qP(a:PS):PS:=λi=>((i:Z)+1)*a (i+1)
def akS{p}{a B}(b:Cg p a B):Cg p (qP a) (qP B):=Cg.of λi=>by show((i:Z)+1)*a (i+1)%p=((i:Z)+1)*B (i+1)%p;rw[kJ,b.at,<-kJ]
def x0{p}{b}(a:aU p b):aU p (qP b):=by let ⟨n,a⟩:=a;exact⟨n,λi c=>LJ<|a (i+1) S⟩
def ia(p:I)(a:V Z)(k:I):V Z:=(be k).map λj=>Y a (j*p) 0
def Bx(p:I)(r:V Z):PS:=λi=>if i%p=0 then Y r (i/p) 0 else 0
namespace Fx
variable{p:I}
def bp(a:Fx p):Fx p:=akO a (λa=>mk (qP a.1)<|x0 a.2)<|λ_ _ h=>mk_eq.2<|akS h
def HA(x a:Fx p):bp (x+a)=bp x+bp a:=by obtain⟨A,h,rfl⟩:=ex x;obtain⟨B,k,rfl⟩:=ex a;exact mk_congr (PS.ext λi=>by show((i:Z)+1)*(A (i+1)+B (i+1))=_;rw[nc];rfl) _ _
def Eb c:bp (K c:Fx p)=0:=mk_congr (PS.ext λi=>by show((i:Z)+1)*PS.K c (i+1)=0;rw[PS.K,M S,dI]) _ _
def R0:bp (0:Fx p)=0:=by have h:=Eb (p:=p) 0;rwa[l3]at h
def By c(x:Fx p):bp (K c*x)=K c*bp x:=by obtain⟨A,h,rfl⟩:=ex x;exact mk_congr (PS.ext λi=>by show((i:Z)+1)*(PS.K c*A) (i+1)=(PS.K c*qP A) i;rw[PS.eS,PS.eS,qP,R5]) (x0<|(aU.K p c).mul h)<|(aU.K p c).mul<|x0 h
def HB(x:Fx p):bp (X*x)=x+X*bp x:=by
 obtain⟨A,h,rfl⟩:=ex x;exact mk_congr (PS.ext λi=>by
  show((i:Z)+1)*(PS.X 1*A) (i+1)=A i+(PS.X 1*qP A) i;rw[PS.nP,PS.nP,s S,eJ];cases i with
  |zero=>simp
  |succ i=>
   rw[s S,eJ,qP,nb,j7,vW];rfl) (x0<|(xW 1).mul h) (h.add<|(xW 1).mul<|x0 h)
def HC(B:Fx p):∀a:V Z,bp (fx a*B)=bp (fx a)*B+fx a*bp B
 |[]=>by rw[jX,zero_mul,R0,zero_mul,zero_mul,zero_add]
 |c::a=>by have b:=HC B a;rw[D5,add_mul,HA,By,mul_assoc,HB,b,HA,Eb,zero_add,HB];simp only[add_mul,mul_add];ac_rfl
def uV(H:aX p)(b B:Fx p):bp (b*B)=bp b*B+b*bp B:=by obtain⟨a,_,rfl⟩:=kc H.pos b;exact HC B a
def HD(H:aX p)(Q:Fx p):∀a,pk Q a∣bp (pk Q<|a+1)
 |0=>⟨bp<|pk Q 1,(mul_one _).symm⟩
 |a+1=>by show pk Q a*Q∣bp (pk Q (a+1)*Q);rw[uV H];exact dvd_add (tx (HD H Q a)<|dvd_refl Q)<|dvd_mul_right _ _
def Bz(H:aX p)(b:Fx p):sz (bp b)<=sz b-1:=by obtain⟨a,c,rfl⟩:=kc H.pos b;rw[bO c];exact xX H.pos (x0<|aU.ps p a)<|λi d=>LJ<|iN (p:Z) a (i+1) S
def mult(H:aX p){Q:Fx p}(b:bw Q):∀(n:I)(F:Fx p),sz F<n->F≠0->∃e a,F=pk Q e*a/\¬Q∣a
 |0,_,a,_=>by omega
 |n+1,F,a,i=>by
  by_cases c:Q∣F
  .obtain⟨d,rfl⟩:=c;have f:d≠0:=λe=>i Hz
   have l:=dE H f<|b.ne H;have m:=b.1;obtain⟨e,g,rfl,k⟩:=mult H b n d S f;exact⟨e+1,g,by rw[pk];ac_rfl,k⟩
  .exact⟨0,F,(one_mul F).symm,c⟩
def tB(H:aX p){Q:Fx p}(b:Q≠0):∀a,pk Q a≠0
 |0=>nn H
 |a+1=>nQ H (tB H b a) b
def R6(H:aX p){F D W U V:Fx p}(g:F≠0)(b:F=W*D)(i:D=U*F+V*bp F):jz W:=by
 intro Q c d;let ⟨e,h,a,f⟩:=mult H c _ F (di _) g;cases e with
 |zero=>
  refine f ?_
  have a:F=1*h:=a
  rw[one_mul]at a
  rw[<-a,b]
  exact lQ (dvd_trans (dvd_mul_left Q Q) d) D
 |succ e=>
  have k:pk Q e∣F:=by rw[a,pk];exact lQ (dvd_mul_right _ _) h
  have l:pk Q e∣bp F:=by rw[a,uV H];exact dvd_add (lQ (HD H Q e) h)<|lQ (by rw[pk];exact dvd_mul_right _ _)<|bp h
  have m:pk Q e∣D:=by rw[i];exact dvd_add (dz k U)<|dz l V
  have n:Q*Q*pk Q e∣F:=by rw[b];exact tx d m
  let ⟨v,r⟩:=n
  refine f ⟨v,?_⟩
  refine qN H (tB H (c.ne H)<|e+1) ?_
  rw[mul_comm h,<-a,r,pk];ac_rfl
def R7:∀n,pk (X:Fx p) n=mk (PS.X n) (xW n)
 |0=>rfl
 |n+1=>by rw[pk,R7 n];exact mk_congr (PS.LG n 1).symm ((xW n).mul<|xW 1)<|xW<|n+1
def Zu(a:0<p) r:aU p (Bx p r):=⟨G r*p,λi b=>by
 unfold Bx;split
 .rw[cF r ((Nat.le_div_iff_mul_le a).2 b),dj]
 .exact dj _⟩
def Zv(H:aX p)(a:0<p):∀r:V Z,pk (fx r) p=mk (Bx p r) (Zu a r)
 |[]=>by rw[jX,L6 a];exact mk_congr (PS.ext λi=>by unfold Bx;split<;>rfl) (aU.zero p) _
 |c::r=>by
  rw[D5,DW H,zr H,qK,Zv H a r,R7];refine mk_congr (PS.ext λi=>?_) ((aU.K p c).add<|(xW p).mul<|Zu a r) _;rw[PS.eR,PS.nP];by_cases b:p<=i
  .obtain⟨d,rfl⟩:∃d,i=d+p:=⟨i-p,S⟩;rw[s b,eJ,PS.K,M S,zj];unfold Bx;rw[Nat.add_mod_right,Nat.add_div_right _ a];rfl
  .rw[M b,mT,PS.K];unfold Bx;rw[nK S,A6 S];rfl
def pth(H:aX p){a}(c:bp (fx a:Fx p)=0){k}(r:G a<=k*p):(fx a:Fx p)=pk (fx<|ia p a k) p:=by
 have d:0<p:=qM;have f:=mk_eq.1 (c:mk (qP<|h a) (x0<|aU.ps p a)=mk 0 (aU.zero p));rw[Zv H d];refine mk_eq.2<|Cg.of λi=>?_;unfold Bx;by_cases e:i%p=0
 .rw[s e];congr 1;have g:i/p*p=i:=by have:=sZ i p;rw[fR];omega
  unfold ia;by_cases l:i/p<k
  .rw[aF,gj,jW l];show _=Y a (i/p*p) 0;rw[g];rfl
  .rw[cF (List.map _ _) bP,cc,cF a];have:k*p<=i/p*p:=eB p S;omega
 .rw[M e,dj];cases i with
  |zero=>rw[Nat.zero_mod]at e;exact absurd J e
  |succ i=>
   have b:=f.at i
   rw[PS.l0,dj]at b
   refine dQ λm=>?_
   refine H.hp.nQ (a:=(i:Z)+1) (λn=>e ?_) m b
   have:((i+1:I):Z)%(p:Z)=0:=by rw[uG];exact n
   omega
structure Mon(p:I)(a:V Z):Prop where
 c:aY p a
 ne:a≠[]
 one:a.getD (a.length-1) 0=1
def Mon.pos{a}(b:Mon p a):1<=G a:=bX.2 b.ne
def Mon.gI(H:aX p){a}(b:Mon p a):(fx a:Fx p)≠0:=λe=>by rw[<-jX]at e;exact b.ne<|pL b.c (nS H.pos) e
def Ec(H:aX p){a b}(l:Mon p a)(g:Mon p b)(P:G b<=G a):Mon p (aJ a b p).1:=by
 let ⟨d1,d2,d3,d4,d5,d6⟩:=iO H.hp H.le l.c.1 g.c g.ne;have K:=g.pos;obtain⟨n,r⟩:∃n,G b=n+1:=⟨G b-1,S⟩;obtain⟨m,E⟩:∃m,G a=m+n+1:=⟨G a-1-n,S⟩;have i:(aJ a b p).1.length=m+1:=S;have v:=iN (p:Z) (aJ a b p).1;have x:=iN (p:Z) b;rw[i]at v;rw[r]at x;have k:=d1.at<|m+n;have d:=l.one;have f:=g.one;rw[E,eJ]at d;rw[r,eJ]at f;have F:(h (aJ a b p).2) (m+n)=0:=by rw[cc];exact cF _ S
 rw[PS.eR,F,mT,v.top x,cc,cc,cc,d,f,lA]at k;have B:=d2 m;rw[H.one,gT B.1 B.2]at k;have C:(aJ a b p).1.getD ((aJ a b p).1.length-1) 0=1:=by rw[i,eJ];exact k.symm
 refine⟨⟨d2,.inr<|by rw[C];decide⟩,λe=>by rw[e]at i;simp at i,C⟩
def HE(H:aX p){a b}(d:aY p a)(f:aY p b)(c:b≠[]):(aJ a b p).2=[]↔(fx b:Fx p)∣fx a:=by
 let ⟨d1,d2,d3,d4,d5,d6⟩:=iO H.hp H.le d.1 f c;have e:(fx a:Fx p)=fx (aJ a b p).1*fx b+fx (aJ a b p).2:=mk_eq.2 d1;have i:=bX.2 c;constructor
 .intro h;rw[e,h,jX,add_zero];exact dvd_mul_left _ _
 .intro h;rw[e]at h;have g:=rY H (uR h<|dvd_mul_left _ _) (by rw[bO (d5 d),bO f];omega);rw[<-jX]at g;exact pL (d5 d) (nS H.pos) g
def rZ(H:aX p){a b}(d:aY p a)(f:aY p b)(c:b≠[])(g:(fx b:Fx p)∣fx a):(fx a:Fx p)=fx (aJ a b p).1*fx b:=by let ⟨d1,d2,d3,d4,d5,d6⟩:=iO H.hp H.le d.1 f c;have e:(fx a:Fx p)=fx (aJ a b p).1*fx b+fx (aJ a b p).2:=mk_eq.2 d1;rwa[(HE H d f c).2 g,jX,add_zero]at e
def HG(H:aX p){a b}(d:aY p a)(f:aY p b)(c:b≠[]):(fx b:Fx p)∣fx (aJ a b p).2-fx a:=by let ⟨d1,_⟩:=iO H.hp H.le d.1 f c;have e:(fx a:Fx p)=fx (aJ a b p).1*fx b+fx (aJ a b p).2:=mk_eq.2 d1;refine kM ?_;rw[e,xV];exact dvd_mul_left _ _
def Zw(H:aX p):∀(k:I)(f g:V Z),aY p f->aY p g->G g<k->(fx (nm p k f g):Fx p)∣fx f/\(fx (nm p k f g):Fx p)∣fx g/\∃U a,(fx (nm p k f g):Fx p)=U*fx f+a*fx g
 |0,_,_,_,_,i=>by omega
 |k+1,f,g,c,hg,i=>by
  rw[nm];split
  .rename_i b;subst b;exact⟨dvd_refl _,by rw[jX];exact dvd_zero _,1,0,by rw[one_mul,zero_mul,add_zero]⟩
  .rename_i b;let ⟨d1,d2,d3,d4,d5,d6⟩:=iO H.hp H.le c.1 hg b;have l:=bX.2 b;have d:(fx f:Fx p)=fx (aJ f g p).1*fx g+fx (aJ f g p).2:=mk_eq.2 d1;let ⟨i1,i2,U,a,i3⟩:=Zw H k g (aJ f g p).2 hg (d5 c) S;refine⟨by rw[d];exact dvd_add (dz i1 _) i2,i1,a,U-a*fx (aJ f g p).1,?_⟩;rw[i3,d,mul_add,sub_mul];have:a*(fx (aJ f g p).1*fx g)+a*fx (aJ f g p).2+(U*fx g-a*fx (aJ f g p).1*fx g)=(U*fx g-a*fx (aJ f g p).1*fx g+a*fx (aJ f g p).1*fx g)+a*fx (aJ f g p).2:=eT;rw[this,kL]
def HH(H:aX p){a}(f:aY p a)(d:a≠[]):Mon p (jL p a)/\G (jL p a)=G a/\(fx (jL p a):Fx p)∣fx a/\(∃c,(fx (jL p a):Fx p)=K c*fx a)/\(fx a:Fx p)=K (Y a (G a-1) 0)*fx (jL p a):=by
 let ⟨m1,b,g,i,k⟩:=LX H.hp H.le f d;have l:=bX.2 d;have e:(fx a:Fx p)=K (Y a (G a-1) 0)*fx (jL p a):=by rw[mul_comm];exact mk_eq.2 k
 refine⟨⟨m1,λe=>by rw[e]at b;simp at b;omega,by rw[b];exact g⟩,b,⟨_,e⟩,⟨((eQ (ad<|Y a (G a-1) 0) (ad ((p:I):Z)):I):Z),?_⟩,e⟩;rw[mul_comm];exact mk_eq.2 i
def qQ(H:aX p){f g}(a:aY p f)(k:aY p g)(b:f≠[]):Mon p (c8 p f g)/\(fx (c8 p f g):Fx p)∣fx f/\(fx (c8 p f g):Fx p)∣fx g/\∃U d,(fx (c8 p f g):Fx p)=U*fx f+d*fx g:=by
 let ⟨i,h2,U,d,m⟩:=Zw H (G g+1) f g a k<|di _;let ⟨k1,_,_⟩:=LW H.hp H.le (G g+1) f g a k<|di _;have n:nm p (G g+1) f g≠[]:=λe=>by rw[e,jX]at i;let ⟨w,hw⟩:=i;rw[mul_zero,<-jX]at hw;exact b<|pL a (nS H.pos) hw
 let ⟨m1,v,l,⟨c,r⟩,_⟩:=HH H k1 n;exact⟨m1,dvd_trans l i,dvd_trans l h2,K c*U,K c*d,by rw[c8,r,m,mul_add,mul_assoc,mul_assoc]⟩
end Fx
section
variable{P:Program}{tt:TT}
def Zx{n:I}{g:Array Oper}{a:Bool}{E:I}{Q:St->Prop}(l:cN P tt=ae):∀(r b:V Oper)(i:I)(v:St)(p:Pr)(m:V Ks){x:I}{c:St}{B:Pr}{d:V Ks},
  runs tt n E a g.toList r i v p m=([],x,c,B,d)->B.h->(RG P n g a E x b c d Q)->p.h/\RG P n g a E i (r++b) v m Q
 |[],b,i,v,p,m,x,c,B,d,f,hp,F=>by simp only[runs,cG]at f;obtain⟨_,rfl,rfl,rfl,rfl⟩:=f;exact⟨hp,F⟩
 |o::r,b,i,v,p,m,x,c,B,d,f,hp,F=>by
  simp only[runs]at f;split at f
  .rename_i C q k K;let ⟨H,R⟩:=Zx l r b (i+1) C (.an p q) (ff a m k) f hp F;let ⟨U,h2⟩:=Pr.CK H;exact⟨U,C7 l K h2<|jH R⟩
  .simp only[cG]at f;let ⟨W,_⟩:=f;cases W
def akU{n}{b}{a}{l i}{c}{m}{p}{Q:St->Prop}{x}{d}{B}{f}(r:cN P tt=ae) k
  (F:runs tt n l a b.toList (y k c) i m .t p=([],x,d,B,f)) (H:B) {E}{g}(v:aE k c=E::g) (R:RG P n b a l x (E::g) d f Q):RG P n b a l i c m p Q:=by
 have:=(Zx r (y k c) (aE k c) i m .t p F H<|by rw[v];exact R).2
 rwa[ri]at this
def mz{n}{f}{a}{R i}{d}{U:eL}{x}{ty}{pos}{B}{W}{l}{mem}{m}{r}{ks}{Q:St->Prop}(F:cN P tt=ae)
 {v g}{E}{bz}{cs}{c}(hx:St.ev ⟨l,mem,m,r⟩ x=some (.c<|.P v g)) (hl:w v mem=some (.box E bz cs)) (hc:cs[g]? =some c) (H:px tt U=some (1,false))
  (bW:RG P n f a R (i+1) W ⟨(d,.c c)::l,mem,m,r⟩ (ff a ks (cH [x]++fv [v],[.s d])) Q) (b:f' d n=ae:=by rfl):
  RG P n f a R i (⟨some d,.load U x,ty,pos,B,none⟩::W) ⟨l,mem,m,r⟩ ks Q:=by
 have b:d<n:=cY b
 refine C7 (p:= .t) F (st1:=⟨(d,.c c)::l,mem,m,r⟩) (k:=(cH [x]++fv [v],[.s d])) ?_ T<|jH bW
 simp only[yP,yO,b,cA,hx,FR,H,hl,oH,jQ,cC,hc,Kj]
def pM{n}{l}{a}{U i}{d}{W:eL}{x B}{ty}{pos}{F}{os}{m}{mem}{r}{v}{ks}{Q:St->Prop}(H:cN P tt=ae)
 {g}{E}{T}{xs}{k}{b}(hx:St.ev ⟨m,mem,r,v⟩ x=some (.c<|.X g)) (hl:w g mem=some (.vec E T xs)) (hy:St.ev ⟨m,mem,r,v⟩ B=some (.c<|.I k b)) (R:vC tt W T.n=ae) (h0:0<=b) (h1:b<G xs)
  (bW:RG P n l a U (i+1) os ⟨(d,.c<|.Y g T.n (ad b) 0)::m,mem,r,v⟩ (ff a ks (cH [x,B]++fv [g],[.s d])) Q) (f:f' d n=ae:=by rfl):
  RG P n l a U i (⟨some d,.indexAddr W x B,ty,pos,F,none⟩::os) ⟨m,mem,r,v⟩ ks Q:=by
 have f:d<n:=cY f
 refine C7 (p:= .and (.le 0 b)<|.lt b<|G xs) H (st1:=⟨(d,.c<|.Y g T.n (ad b) 0)::m,mem,r,v⟩) (k:=(cH [x,B]++fv [g],[.s d])) ?_ ⟨h0,h1⟩<|jH bW
 simp only[yP,yO,f,cA,hx,hy,J3,hl,R]
def x4{n}{f}{a}{nx i}{d}{b9:eL}{x}{ty}{pos}{R}{os}{l}{mem}{r}{v}{ks}{Q:St->Prop}(U:cN P tt=ae)
 {B m F g}{E}{H}{xs}{sz}{ag}{W}(hx:St.ev ⟨l,mem,r,v⟩ x=some (.c<|.Y B m F g)) (hl:w B mem=some (.vec E H xs)) (hm:H.n=m) (Aw:px tt b9=some (sz,ag)) (hp:oH (av H<|Y xs F H.cJ) g sz ag=some W) (hj:F<G xs)
  (bW:RG P n f a nx (i+1) os ⟨(d,W)::l,mem,r,v⟩ (ff a ks (cH [x]++fv [B],[.s d])) Q) (b:f' d n=ae:=by rfl):
  RG P n f a nx i (⟨some d,.load b9 x,ty,pos,R,none⟩::os) ⟨l,mem,r,v⟩ ks Q:=by
 have b:d<n:=cY b
 refine C7 (p:= .JM F<|G xs) U (st1:=⟨(d,W)::l,mem,r,v⟩) (k:=(cH [x]++fv [B],[.s d])) ?_ hj<|jH bW
 simp only[yP,yO,b,cA,hx,FR,Aw,hl,hm,hp]
def akV{n}{f}{a}{F i}{d}{H:eL}{x}{W}{pos}{B}{R}{g}{mem}{l}{m}{U}{Q:St->Prop}(E:cN P tt=ae)
 {r}{v}(hx:St.ev ⟨g,mem,l,m⟩ x=some (.c<|.X r)) (hl:C0 tt ⟨g,mem,l,m⟩ H r=some v)
  (bW:RG P n f a F (i+1) R ⟨(d,v)::g,mem,l,m⟩ (ff a U (cH [x]++fv [r],[.s d])) Q) (b:f' d n=ae:=by rfl):
  RG P n f a F i (⟨some d,.call ⟨.builtin .len,#[x],#[H]⟩,W,pos,B,none⟩::R) ⟨g,mem,l,m⟩ U Q:=by
 have b:d<n:=cY b
 refine C7 (p:= .t) E (st1:=⟨(d,v)::g,mem,l,m⟩) (k:=(cH [x]++fv [r],[.s d])) ?_ T<|jH bW
 simp only[yP,yO,b,cA,hx,hl]
def akW(g:cN P tt=ae){n c}{f}{i}{b:Oper}(r:f[i]? =some b)(B:b.guard=none){d:I}(E:b.dst=some d)(l:d<n){a}{x}{p}(F:Gq tt a b.op=some (x,p))(H:p):lI P n f i a (a.put d x) c (cH b.op.operands.toList,[.s d]):=by refine⟨qu a b.op,[(.s d,some<|.v x)],aio g r B E l F H c,?_,nH a d x,fZ a _,λk hk=>jG⟩;intro C m;let ⟨x,_,h⟩:=jF.1 m;exact gw a x C h
def akX{n}{b}{a}{r i}{d}{op:Op}{E}{pos}{c}{v}{f}{mem}{g}{k}{B}{Q:St->Prop}(l:cN P tt=ae){x}{p}(F:Gq tt ⟨f,mem,g,k⟩ op=some (x,p))(H:p)
  (R:RG P n b a r (i+1) v ⟨(d,x)::f,mem,g,k⟩ (ff a B (cH op.operands.toList,[.s d])) Q) (m:f' d n=ae:=by rfl):
  RG P n b a r i (⟨some d,op,E,pos,c,none⟩::v) ⟨f,mem,g,k⟩ B Q:=
 k7 (λC=>akW l C J J (cY m) F H) (jH R)
def Zy{n}{b}{a}{f i}{d b9}{x}{ty}{pos}{B}{os}{g}{mem}{l}{p}{ks}{Q:St->Prop}(F:cN P tt=ae)
  (m:I) {k}(hx:St.ev ⟨g,mem,l,p⟩ x=some (.c<|.I k (m:Z))) {E}{ti v}(H:w b9 tt=some ti) (hk:ti.kind= .sl E) (R:w E tt=some v) (r:0<v.size) (hb:m*v.bytes<=16777216) (U:m<=16777216)
  (W:RG P n b a f (i+1) os ⟨(d,.c<|.L (1000000*f+1000*i) 0 m<|some m)::g,(1000000*f+1000*i,.box E 0<|xl (v.zero.map ZV.ru) m)::mem,l,p⟩ (ff a ks (cH [x,x],[.s d,.m<|1000000*f+1000*i])) Q) (dC:f' d n=ae:=by rfl):
  RG P n b a f i (⟨some d,.makeSlice b9 x x,ty,pos,B,none⟩::os) ⟨g,mem,l,p⟩ ks Q:=by
 refine k7 (λK=>⟨_,_,aiq F K J J (cY dC) J hx hx H hk R r hb U _,?_,AA ⟨g,mem,l,p⟩ d _ _ _,λk hk=>fZ ⟨g,mem,l,p⟩ [x,x] k hk,λk hk=>jG⟩)<|jH W
 intro X C
 let ⟨x,_,W⟩:=jF.1 C
 exact gw _ x X W
def akY(fc:cN P tt=ae){ops}{i}{br}(ho:ops[i]? =some br)(hg:br.guard=none)(hd:br.dst=none){n}{b9:eL}{x p}(dZ:br.op= .store b9 x p)
 {R}{U f v}{E}{bz:I} {cs:V C} {E2:eL} {dR:ET} {xs:V dR.den} (hx:R.ev x=some (.c<|.P U f)) (hy:R.ev p=some (.c<|.X v)) (hl:w U R.mem=some (.box E bz cs)) (hj:w v R.mem=some (.vec E2 dR xs)) {ag:Bool} (Aw:px tt b9=some (1,ag)) (h1:f<G cs) (new:I):
  ml P n ops i (dO R x++dO R p++k5 R [U,v]) [(.m U,some<|.b<|.box E bz<|dx cs [.X v] f)] new:=by
 intro F nF Q known σ g W a K D d B hK
 have AQ:=gO d R x _ hx<|λL dL=>B L jt
 have M:=gO d R p _ hy<|λL dL=>B L jt
 have hmy:=uq d R p _ hy<|λL dL=>B L jt
 have r:σ (.m U)=some (.b<|.box E bz cs):=B (.m U,.b<|.box E bz cs) sW
 have N:σ (.m v)=some (.b<|.vec E2 dR xs):=B (.m v,.b<|.vec E2 dR xs) (by simp[k5,hj])
 let ⟨b,vs,rest,u,hh,hr,hN,hz,Gs⟩:=d.db U _ r
 have O:=d.db v _ N
 let ⟨b',H,hv⟩:=AQ
 rw[u]at H
 simp only[aR]at H
 subst H
 have S:a.eval p=g.γ v:=M
 have Y:oI (a.eval p)=ae:=by rw[S];rcases O with⟨e,_⟩|⟨_,_,_,e,_⟩<;>rw[e]<;>rfl
 have s:(a.eval p).cells=[a.eval p].toArray:=by rw[S];rcases O with⟨e,_⟩|⟨_,_,_,e,_⟩<;>rw[e]<;>rfl
 have Pv:bL g [.X v] [a.eval p]:=⟨_,_,J,M,J⟩
 let ⟨_,⟨ti,ry,WZ⟩,_⟩:=FP fc Aw
 have ahz:=hr.length
 have Z:(Instr.storeAt b9 (a.eval x)<|a.eval p).run P W= .ok () (jr W b (dx (vs++rest) [a.eval p] f) E):=by rw[hv];simp only[Instr.storeAt,Instr.sureAddr,storeVar,Sem.run_bind,Sem.run_pure,Result.andThen,run_sizeOf ry,s];have:¬([a.eval p].toArray.size≠ti.size):=bP;simp only[this,cC];have:=CY (P:=P) b [a.eval p] W (vs++rest) f 0 hh bP (by simpa using Y);simp only[jE]at this;simpa using this
 unfold wpOp
 simp only[ho,Region.wanted,hg,cA]
 refine .inl ?_
 unfold Oper.wp
 have hex:(execOp a.eval br).run P W= .ok .skip (jr W b (dx (vs++rest) [a.eval p] f) E):=by rw[execOp,dZ];simp[Z,Sem.run,pure]
 rw[hex]
 simp only[Oper.upon,hd,Act.put]
 have hb:b<W.heap.size:=(jP.1 hh).1
 refine hK g _ a<|d.step (chg:=λv=>v=U) (g':=g) ⟨⟨cz.refl _,λ_ _=>rfl⟩,λ_ _ _=>rfl,FW d.sub hz,by simp[jr],?_,J,J,J⟩ _ new D J d.defers (λ_ _=>rfl) ?_ ?_ ?_ ?_ ?_
 .intro k hk kj;have:b≠k:=λe=>kj U J (by rw[u,e])
  exact CV this
 .intro v hj;subst hj;exact⟨by simp[bf],_,r⟩
 .intro t' v' ht;simp[bf]at ht
 .intro q bk A;simp only[bf]at A;split at A
  .rename_i e;simp only[Key.m.injEq]at e;subst e;simp only[aR,Info.b.injEq]at A;subst A;have KO:dx (vs++rest) [a.eval p] f=dx vs [a.eval p] f++rest:=WY vs rest _ f bP;exact⟨⟨b,dx vs [a.eval p] f,rest,u,by rw[CU hb,KO],hr.dx Pv f,hN,hz,λh0=>by let ⟨c,e1,e2⟩:=Gs h0;refine⟨c,e1,?_⟩;rw[<-KO,CW _ _ _ bP];exact e2⟩,.inl ⟨d.fD _ _ r,_,r⟩⟩
  .simp at A
 .intro k z l;simp only[bf]at l;split at l
  .simp only[aR]at l;subst l;intro q A;rcases PU _ _ _ q A with h|h
   .exact .inl<|d.ar _ _ r q h
   .exact .inl (hmy q<|by simpa[cy,AV.ar]using h)
  .simp at l
 .intro q z l;simp only[bf]at l;split at l
  .rename_i e;simp only[Key.m.injEq]at e;subst e;exact .inl<|d.fD _ _ r
  .simp at l
def ak0{b:Type} vs(a:b) off(c:off<G vs):dx vs [a] off=vs.set off a:=by unfold dx;rw[List.set_eq_take_append_cons_drop,s c,jR];rfl
def Ed{n}{v}{a}{U i}{W:eL}{x p}{ty}{pos}{B}{os}{b}{mem}{d}{f}{ks}{Q:St->Prop}(F:cN P tt=ae)
 {g l r}{E}{bz}{H}{E2}{dR}{xs}(hx:St.ev ⟨b,mem,d,f⟩ x=some (.c<|.P g l)) (hy:St.ev ⟨b,mem,d,f⟩ p=some (.c<|.X r)) (hl:w g mem=some (.box E bz H)) (hj:w r mem=some (.vec E2 dR xs)) {ag}(R:px tt W=some (1,ag)) (h1:l<G H)
  (h:RG P n v a U (i+1) os ⟨b,(g,.box E bz<|H.set l<|.X r)::mem,d,f⟩ (ff a ks (cH [x,p]++fv [g,r],[.m g])) Q):
  RG P n v a U i (⟨none,.store W x p,ty,pos,B,none⟩::os) ⟨b,mem,d,f⟩ ks Q:=by
 refine k7 (λe=>⟨_,_,akY F e J J J hx hy hl hj R h1 _,?_,?_,?_,λk hk=>jG⟩)<|jH h
 .intro C K;rcases b8.1 K with h|h
  .rcases b8.1 h with h|h
   .exact gw _ x C h
   .exact gw _ p C h
  .exact qA _ [g,r] C h
 .rw[ak0 _ _ _ h1];exact J9 ⟨b,mem,d,f⟩ g _
 .intro k hk;simp only[gn,fe,b8]at hk;rcases hk with(h|h)|h
  .exact fC _<|fZ ⟨b,mem,d,f⟩ [x,p] k wY
  .exact fC _<|fZ ⟨b,mem,d,f⟩ [x,p] k wZ
  .exact jo _<|py ⟨b,mem,d,f⟩ [g,r] k h
end
end Go.El
