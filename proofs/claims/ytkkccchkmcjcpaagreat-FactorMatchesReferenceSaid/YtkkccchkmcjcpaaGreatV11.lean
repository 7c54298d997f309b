/- Contracts: integer polynomials of the reference. Own work; no condition. -/
import Derived.Test.YtkkccchkmcjcpaaGreatV10
import Derived.Test.YtkkccchkmcjcpaaGreatV8
import Derived.Test.YtkkccchkmcjcpaaGreatV7
set_option linter.all false
set_option maxHeartbeats 16000000
set_option maxRecDepth 100000
open Bool renaming false->ah,true->ae
open Go.El renaming rr->e,cS->N,vL->q,gy->L,cI->D,re->o,auI->z,y6->u,rb->t,kZ->w,ps->h
open Go.Proofs.Tryz renaming prog->j
open Int renaming toNat->ad,natAbs->aq
open List renaming range->be,length->G,getD->Y,take->y,replicate->bh,drop->aE
open _root_ renaming List->V,Int->Z,Nat->I
namespace Go.El
open Go Go.Proofs Go.RowKit
def af.a1{P}{f}{x c}{xs}{r}(a:af P f (c::xs) r)(b:a7 x c):af P f (x::xs) r:=
 ⟨a.call,a.iw,λH W vs d g=>a.spec H W vs d<|by obtain⟨v,r,rfl,i,k⟩:=g;exact⟨v,r,J,b.1 _ _ i,k⟩⟩
def yd(a:V Z)(m:Z)(b:V Z):V Z:=(be<|max (G a)<|G b).map λi=>Y a i 0+m*Y b i 0
def anj(f:I->Z) i:(be<|i+1).map f=(be i).map f++[f i]:=by rw[nE,fe];rfl
def Tn a m(b:V Z) k(B:k<=100000)(E:G a<=1000)(F:G b<=1000)(r:∀i,aw k (Y a i 0))(p:aw k m)(v:∀i,0<=Y b i 0/\Y b i 0<4294967296):af j 113 [N .z a,aZ m,N u b] (N .z<|au<|yd a m b):=by
 refine aD Tryz.func113 ?_;generalize hM:max (G a) (G b)=M;have x:M<=1000:=S;have d:yd a m b=(be M).map λi=>Y a i 0+m*Y b i 0:=by rw[yd,hM]
 rw[d];refine e J<|t<|gR .z [] J J (o J<|L<|e J ?_);refine q<|aK (α:=I) (λi=>⟨[(0,N .z a),(2,N u b),(4,.c<|.P 0 0),(7,.c<|.X 1000000),(8,D i)],[(0,.box 44 0<|av .z m),(1000000,.vec 44 .z<|(be i).map λi=>Y a i 0+m*Y b i 0)],3,[]⟩) (λi=>i<=M) (λi=>M-i) 0 (aW _) (wk (aS J) ⟨bE J J,bR J,T⟩) ?_;intro i C;have H:G ((be i).map λi=>Y a i 0+m*Y b i 0)=i:=ax;by_cases l:i<M
 .refine oq ⟨[(0,N .z a),(2,N u b),(4,.c<|.P 0 0),(7,.c<|.X 1000000),(8,D i)],[(0,.box 44 0<|av .z m),(1000000,.vec 44 .z<|(be i).map λi=>Y a i 0+m*Y b i 0)],4,[]⟩ ?_ (λf=>t<|rg 14 J J (λh=>o J<|z J (λ_=>bN<|fH f aM)<|λh2=>nl)<|λh=>o J<|z J (λ_=>bN<|fH f aM)<|λh2=>?_)
  .have h2:=v i;have g:aw 1 (Y b i 0):= .one S;refine L<|q<|bs ?_;refine rc J J (G3 a i)<|rc J J (Hl b i)<|rc J J (kp (Y b i 0) S S) (hp:=ak)<|rc J J (lL m (Y b i 0) (p.sm S)<|g.sm S)<|rc J J (zc (Y a i 0) (m*Y b i 0) ((r i).sm S)<|(p.mul g).sm S) ?_;refine rl .z [Y a i 0+m*Y b i 0] J J (ra J J J J J J J J J ?_ ?_<|o J ?_)
   .show(_+1+(_+1)/4+192)*32<=_;omega
   .show(_+1)*2<=_;omega
   refine aT<|rt J<|aA (i+1) l xu<|Wk.trans (wk (st':=⟨[(0,N .z a),(2,N u b),(4,.c<|.P 0 0),(7,.c<|.X 4013000),(8,D ((i+1:I):Z))],[(0,.box 44 0<|av .z m),(4013000,.vec 44 .z<|(be<|i+1).map λi=>Y a i 0+m*Y b i 0)],8,[]⟩) (aS J) ⟨bR J,bE J ?_,T⟩)<|Wk.trans (fp 1000000 4013000 J J J) aM;exact aC (aH.vec 44 .z) (anj _ i).symm
  .exfalso;have h:¬(i:Z)<(G a:Z):=aL h;have h2:¬(i:Z)<(G b:Z):=aL h2;omega
 .have n:i=M:=by omega
  subst n;refine L<|t<|rg 14 J J (λh=>?_)<|λh=>?_
  .exfalso;have h:(i:Z)<(G a:Z):=az h;omega
  .refine o J (z J (λh2=>?_)<|λh2=>?_)
   .exfalso;have h2:(i:Z)<(G b:Z):=az h2;omega
   .exact aN<|ay<|cD 1000000 J J J<|aO J J (La _) J<|bU J
def ank m b:yd [] m b=b.map (m*·):=by refine lq (by simp[yd])<|λi c h2=>?_;have a:i<G b:=lj;simp only[yd,og,uA];rw[aF (l:=b),bD a];simp
def To(b:V Z)(a:G b<=1000)(c:∀i,0<=Y b i 0/\Y b i 0<4294967296):af j 40 [N u b] (N .z<|au b):=by refine aD Tryz.func40 ?_;have h:=Tn [] 1 b 1 A ax a (λi=>aw.zero 1) (.one A) c;rw[ank,show(λx:Z=>1*x)=id from funext λx=>j7 x,List.map_id]at h;exact e J<|t<|rc J J (kp 1 A A)<|rc J J (h.a1<|a7.nil .z)<|o J<|bU J
def Tp(p k:I)(b:p<4294967296)(d:k<=100000):af j 39 [cU p,D k] (aZ<|(p:Z)^k):=by
 refine aD Tryz.func39 ?_;have a:aw 1 (p:Z):= .one S;refine e J<|aO J J (kp 1 A A) J<|L<|e J ?_;refine q<|aK (α:=I) (λi=>⟨[(0,cU p),(1,D k),(4,.c<|.P 0 0),(5,.c<|.P 1001000 0),(6,D i)],[(0,.box 44 0 [.B ah,.V<|.slice none 0 0]),(1001000,.box 44 0<|av .z<|(p:Z)^i)],3,[]⟩) (λi=>i<=k) (λi=>k-i) 0 (aW _) (wk (aS J) ⟨bE J J,bE J ?_,T⟩) ?_
 .rw[oQ];rfl
 intro i f;refine L<|e J<|z J (λh=>?_)<|λh=>?_
 .have h:i<k:=by have h:(i:Z)<(k:Z):=az h;omega
  refine ai<|L<|q<|bs ?_;refine rc J J (kp p S S) (hp:=ak)<|rc J J (lL ((p:Z)^i) p ((a.pow i).sm S)<|a.sm S)<|o J ?_;refine aT<|rt J<|aA (i+1) h Nk<|wk (aS J) ⟨bE J J,bE J ?_,T⟩;rw[dK];rfl
 .have h:i=k:=by have h:¬(i:Z)<(k:Z):=aL h;omega
  subst h;exact aN<|ay<|e J<|bq J J
def cp(a m:Z):Z:=if a%m+a%m>m then a%m-m else a%m
def EE{n}{a m}(b:0<m)(c:aw n m):aw n (cp a m):=by have d:=fS a (S:m≠0);have f:=gA a b;unfold cp aw at*;split<;>omega
def Nl{a b}:cX a b>0↔a>b:=by
 unfold cX;split
 .omega
 .split<;>omega
def Tq a m g(v:g<=100000)(x:G a<=1000)(k:0<m)(r:∀i,aw g (Y a i 0))(l:aw g m):af j 41 [N .z a,aZ m] (N .z<|au<|a.map (cp · m)):=by
 refine aD Tryz.func41 ?_;refine e J<|t<|gR .z [] J J (o J<|L<|e J ?_);refine q<|aK (α:=I) (λi=>⟨[(0,N .z a),(3,.c<|.P 0 0),(5,.c<|.X 1000000),(6,D i)],[(0,.box 44 0<|av .z m),(1000000,.vec 44 .z<|(y i a).map (cp · m))],3,[]⟩) (λi=>i<=G a) (λi=>G a-i) 0 (aW _) (wk (aS J) ⟨bE J J,bR J,T⟩) ?_;intro i B;have C:((y i a).map (cp · m)).length=i:=bP;refine L<|e J<|z J (λh=>?_)<|λh=>?_
 .have h:i<G a:=by have h:(i:Z)<(G a:Z):=az h;omega
  have n:af j 81 [.a (av .z<|Y a (ad<|(i:Z)) 0),aZ m] (.t [(ae,av .z<|Y a i 0/m),(ae,av .z<|Y a i 0%m),(ah,[.I .i64 0])]):=by rw[aV];exact DK (Y a i 0) m S ((r i).sm S)<|l.sm S
  have p:aw g (Y a i 0%m):=aw.emod k l;have d:=zc (Y a i 0%m) (Y a i 0%m) (p.sm S)<|p.sm S;refine ai<|L<|q<|t<|rc J J n (hp:=ak)<|o J ?_;refine oq ⟨[(0,N .z a),(3,.c<|.P 0 0),(5,.c<|.X 1000000),(6,D i),(8,.c<|.P 4011000 0)],[(0,.box 44 0<|av .z m),(1000000,.vec 44 .z<|(y i a).map (cp · m)),(4011000,.box 44 0<|av .z<|cp (Y a i 0) m)],7,[]⟩ ?_<|λf=>?_
  .refine bs (rl .z [cp (Y a i 0) m] J J (ra J J J J J J J J J ?_ ?_<|o J ?_))
   .show(_+1+(_+1)/4+192)*32<=_;omega
   .show(_+1)*2<=_;omega
   refine aT<|rt J<|aA (i+1) h ka<|Wk.trans (wk (st':=⟨[(0,N .z a),(3,.c<|.P 0 0),(5,.c<|.X 7003000),(6,D ((i+1:I):Z))],[(0,.box 44 0<|av .z m),(7003000,.vec 44 .z<|(y (i+1) a).map (cp · m))],9,[]⟩) (aS J) ⟨bR J,bE J ?_,T⟩)<|Wk.trans (fp 1000000 7003000 J J J) aM;refine aC (aH.vec 44 .z) ?_;rw[jK a i h,fe];rfl
  .refine t (rc J J d<|rc J J (KP (Y a i 0%m+Y a i 0%m) m)<|o J<|z J (λb=>?_)<|λb=>?_)
   .have b:cX (Y a i 0%m+Y a i 0%m) m>0:=az b;rw[Nl]at b;refine bs<|rc J J (Q5 (Y a i 0%m) m (p.sm S)<|l.sm S)<|o J<|fH f<|wk (aS J) ⟨bE J J,bR J,bE J ?_,T⟩;rw[cp,s b];rfl
   .have b:¬cX (Y a i 0%m+Y a i 0%m) m>0:=aL b;rw[Nl]at b;refine bN<|fH f<|wk (aS J) ⟨bE J J,bR J,bE J ?_,T⟩;rw[cp,M b];rfl
 .have h:i=G a:=by have h:¬(i:Z)<(G a:Z):=aL h;omega
  subst h;rw[eE];exact aN<|ay<|cD 1000000 J J J<|aO J J (La _) J<|bU J
def abT{a b}(c:bK a=bK b)(d:de a=de b):a=b:=by have f:val (aj<|aq a)=val (aj<|aq b):=aC val d;rw[eN,eN]at f;have g:=xw a;have i:=xw b;rw[<-g,<-i,c,(S:aq a=aq b)]
def Nm{x a:Bool}:(x !=a)=ae↔x≠a:=by cases x<;>cases a<;>decide
def Tr a b(g:Sm a):af j 32 [aZ a,aZ b] (cB<|decide<|a=b):=by
 refine aD Tryz.func32 ?_;have g:G (de a)<=1099511627776:=g;refine rr J<|L<|t<|rg 11 J J (λh=>?_)<|λh=>?_
 .have h:bK a≠bK b:=Nm.1 h;refine o J<|z J (λ_=>rr J<|bc<|bt<|c9 J<|aC cB ?_)<|λh2=>nl;rw[iX (λe=>h oV)]
 .have h:bK a=bK b:=by
   have h:¬(bK a !=bK b)=ae:=by rw[h];decide
   rw[Nm]at h;exact Decidable.not_not.1 h
  refine o J<|z J (λh2=>?_)<|λh2=>ai ?_
  .have h2:=nN h2;refine rr J<|bc<|bt<|c9 J<|aC cB ?_;rw[iX (λe=>h2 oV)]
  .have h2:=nO h2;refine L<|rr J<|q<|aK (α:=I) (λi=>⟨[(2,.c<|.P 0 0),(3,.c<|.P 1000 0),(5,D i)],[(0,.box 44 0<|av .z a),(1000,.box 44 0<|av .z b)],4,[]⟩) (λi=>i<=G (de a)/\y i (de a)=y i (de b)) (λi=>G (de a)-i) 0 ⟨aW _,ax⟩ (wk (aS J) ⟨bE J J,bE J J,T⟩) ?_;rintro i ⟨k,ht⟩;refine L (rr J<|z J (λd=>?_)<|λd=>?_)
   .have d:i<G (de a):=by have d:(i:Z)<(G (de a):Z):=az d;omega
    refine ai<|L<|q<|rr J (hp:=ak)<|z J (λf=>?_)<|λf=>bN<|aT ?_
    .have f:Y (de a) i 0≠Y (de b) i 0:=nN f;refine rr J<|bc ?_;repeat(first|refine bt ?_|refine eH ?_|refine gf ?_)
     refine c9 J<|aC cB ?_;rw[iX (λe=>f oV)]
    .have f:Y (de a) i 0=Y (de b) i 0:=nO f;exact rt J<|aA (i+1) ⟨d,by rw[jK _ i d,jK _ i S,ht,f]⟩ (S:G (de a)-(i+1)<G (de a)-i)<|wk (aS J) ⟨bE J J,bE J J,T⟩
   .have d:i=G (de a):=by have d:¬(i:Z)<(G (de a):Z):=aL d;omega
    subst d;rw[eE,iI S]at ht;refine aN<|ay<|rr J<|bq J<|aC cB ?_;rw[jU (abT h ht)]
def abU(a b:V Z)(k:G a<=1000000)(f:∀i,Sm (Y a i 0)):af j 31 [N .z a,N .z b] (cB<|decide<|a=b):=by
 refine aD Tryz.func31 ?_;refine rr J<|L<|rr J<|z J (λh=>?_)<|λh=>ai ?_
 .have h:=nN h;refine rr J<|bc<|bt<|c9 J<|aC cB ?_;rw[iX (λe=>h oV)]
 .have h:=nO h;refine L<|rr J<|q<|aK (α:=I) (λi=>⟨[(0,N .z a),(1,N .z b),(5,D i)],[],4,[]⟩) (λi=>i<=G a/\y i a=y i b) (λi=>G a-i) 0 ⟨aW _,ax⟩ aM ?_;rintro i ⟨l,ht⟩;refine L (rr J<|z J (λd=>?_)<|λd=>?_)
  .have d:i<G a:=by have d:(i:Z)<(G a:Z):=az d;omega
   have g:af j 32 [.a (av .z<|Y a (ad<|(i:Z)) 0),.a<|av .z<|Y b (ad<|(i:Z)) 0] (cB<|decide<|List.getD a i 0=Y b i 0):=by rw[aV];exact Tr _ _<|f i
   refine ai<|L<|q<|t<|rc J J g (hp:=ak)<|o J<|z J (λc=>?_)<|λc=>bN<|aT ?_
   .have c:Y a i 0≠Y b i 0:=by intro e;have c:(!decide (List.getD a i 0=Y b i 0))=ae:=c;rw[jU e]at c;cases c
    refine rr J<|bc ?_;repeat(first|refine bt ?_|refine eH ?_|refine gf ?_)
    refine c9 J<|aC cB ?_;rw[iX (λe=>c oV)]
   .have c:Y a i 0=Y b i 0:=by
     refine Decidable.byContradiction λe=>?_
     have c:(!decide (List.getD a i 0=Y b i 0))=ah:=c;rw[iX e]at c;cases c
    exact rt J<|aA (i+1) ⟨d,by rw[jK a i d,jK b i S,ht,c]⟩ ka aM
  .have d:i=G a:=by have d:¬(i:Z)<(G a:Z):=aL d;omega
   subst d;rw[eE,iI S]at ht;refine aN<|ay<|rr J<|bq J<|aC cB ?_;rw[jU ht]
def abV a m b(i:b<=100000)(c:0<m)(g:Sm a)(d:aw b m):af j 164 [aZ a,aZ m] (aZ<|cp a m):=by
 refine aD Tryz.func164 ?_;have f:aw b (a%m):=aw.emod c d;refine e J<|aO J J (v8 a m S g<|d.sm S) J ?_;refine L<|t<|rc J J (zn (a%m) (a%m) (f.sm S)<|f.sm S)<|rc J J (G7 (a%m+a%m) m)<|o J<|z J (λh=>?_)<|λh=>ai ?_
 .have h:cX (a%m+a%m) m>0:=az h;rw[Nl]at h;refine bs<|rc J J (Rd (a%m) m (f.sm S)<|d.sm S)<|o J<|ay<|e J<|bq J ?_;rw[cp,s h];rfl
 .have h:¬cX (a%m+a%m) m>0:=aL h;rw[Nl]at h;refine e J<|bq J ?_;rw[cp,M h];rfl
def kz(a b:V Z)(i:I):I->V Z->V Z
 |0,r=>r
 |c+1,r=>(kz a b i c r).set (i+c)<|Y (kz a b i c r) (i+c) 0+Y a i 0*Y b c 0
def iR(a b:V Z):I->V Z
 |0=>bh (G a+G b-1) 0
 |i+1=>kz a b i (G b)<|iR a b i
def nW(a b:V Z)(m:Z):V Z:=(iR a b<|G a).map (·%m)
def IG(a b:V Z)(i:I)(r:V Z):∀c,G (kz a b i c r)=G r
 |0=>rfl
 |c+1=>by rw[kz,fP,IG a b i r c]
def II(a b:V Z):∀i,G (iR a b i)=G a+G b-1
 |0=>by simp[iR]
 |i+1=>by rw[iR,IG,II a b i]
def ZB(a v c:I)(r:V Z):Prop:=∀k,aq (Y r k 0)<=c*4294967296^(a+v)
def Ts{a b:V Z}{f v c:I}(l:∀i,aw f (Y a i 0))(m:∀i,aw v (Y b i 0)){i:I}{r:V Z}(g:ZB f v c r):∀d,(∀k,i+d<=k->Y (kz a b i d r) k 0=Y r k 0)/\ZB f v (c+1) (kz a b i d r)
 |0=>⟨λk _=>rfl,λk=>cQ (g k)<|eB _<|Nat.le_succ c⟩
 |d+1=>by
  let ⟨n,h2⟩:=Ts (a:=a) (b:=b) l m (i:=i) g d;refine⟨λk x=>?_,λk=>?_⟩
  .rw[kz,aF,List.getElem?_set_ne S,<-aF];exact n k S
  .rw[kz];by_cases e:i+d<G (kz a b i d r)
   .rw[ls _ _ _ _ e];split
    .rw[n _ (a8 _)];have B:=g<|i+d;have p:=(l i).mul<|m d;unfold aw at p;have C:=MU (Y r (i+d) 0)<|Y a i 0*Y b d 0;rw[g7,iL];omega
    .exact h2 k
   .rw[List.set_eq_of_length_le S];exact h2 k
def Tt{a b:V Z}{c v:I}(d:∀i,aw c (Y a i 0))(f:∀i,aw v (Y b i 0)):∀i,ZB c v i (iR a b i)
 |0=>λk=>by rw[iR,aF,j9];split<;>simp
 |i+1=>by rw[iR];exact(Ts d f (Tt d f i) _).2
def ZB.sm{a v c}{r}(b:ZB a v c r)(d:c<4294967296) k:aw (a+v+1) (Y r k 0):=by have g:=b k;have f:0<4294967296^(a+v):=lN A;have i:c*4294967296^(a+v)<4294967296*4294967296^(a+v):=Lr d f;unfold aw;rw[fy,fR<|4294967296^(a+v)];omega
def Nn{a b}{c v}(d:∀i,aw c (Y a i 0))(f:∀i,aw v (Y b i 0)) i(g:i<=1000) k:aw (c+v+1) (Y (iR a b i) k 0):=(Tt d f i).sm S k
def abW{a b:V Z}{c v i:I}(d:∀i,aw c (Y a i 0))(f:∀i,aw v (Y b i 0))(l:i<=1000)(_:∀k,aw (c+v+1) (Y (iR a b i) k 0))(g k:I):aw (c+v+1) (Y (kz a b i g<|iR a b i) k 0):=(Ts d f (Tt d f i) g).2.sm S k
def abX(a b:V Z)(i:I)(r:V Z):∀c,i+c<=G r->h (kz a b i c r)=h r+PS.K (Y a i 0)*PS.X i*h (y c b)
 |0,_=>by rw[kz,Ho,PS.mul_zero,PS.add_zero]
 |c+1,f=>by rw[kz,Hn _ (by rw[IG];omega),D0,PS.mul_add,<-PS.add_assoc,abX a b i r c S];congr 1;rw[show∀x d:Z,x+d-x=d by intros;omega];rw[PS.rQ,PS.LG];ac_rfl
def abY(a b:V Z):∀i,i<=G a->h (iR a b i)=h (y i a)*h b
 |0,_=>by rw[iR,LV,Ho,PS.zero_mul]
 |i+1,d=>by have c:=abX a b i (iR a b i) (G b) (by rw[II];omega);rw[eE]at c;rw[iR,c,abY a b i S,D0,PS.add_mul]
def No a b m:Cg m (h<|nW a b m) (h a*h b):=by have c:=abY a b (G a)<|a8 _;rw[eE]at c;rw[<-c];exact LU m _
def zT a b m:G (nW a b m)=G a+G b-1:=by rw[nW,cL,II]
def anl a b m E v(W:E+v<=100000)(la:G a<=1000)(lb:G b<=1000)(F:a≠[])(H:b≠[])(Bd:0<m)(k:∀i,aw E (Y a i 0))(l:∀i,aw v (Y b i 0))(hm:aw (E+v) m):
  mR Tryz.prog 161 [N .z a,.c<|.X 0,aZ m] 44 .z b (N .z<|nW a b m) b:=by
 refine pB Tryz.func161 J J J J J A ?_
 have O:=bX.2 F
 have V:=bX.2 H
 have n:∀i,G (iR a b i)=G a+G b-1:=II a b
 refine e J<|t<|rm .z (G a+G b-1) J J J J J J (λg=>xr g) S ?_ ?_<|o J ?_
 .show _*32<=_;omega
 .show _*2<=_;omega
 refine L<|e J ?_
 refine q<|aK (α:=I) (λi=>⟨[(0,N .z a),(1,.c<|.X 0),(5,.c<|.P 1000000 0),(7,.c<|.X 2006000),(19,D<|G a),(20,D i)],[(0,.vec 44 .z b),(1000000,.box 44 0<|av .z m),(2006000,.vec 44 .z<|iR a b i)],5,[]⟩) (λi=>i<=G a) (λi=>G a-i) 0 (aW _) (wk (aS J) ⟨bR J,bE J J,bR J,T⟩) ?_
 .intro i s;refine e J (L<|z J (λh=>?_)<|λh=>?_)
  .have h:i<G a:=by have h:(i:Z)<(G a:Z):=az h;omega
   refine ai<|L<|q<|e J<|e J ?_;refine q<|aK (α:=I) (λj=>⟨[(0,N .z a),(1,.c<|.X 0),(5,.c<|.P 1000000 0),(7,.c<|.X 2006000),(8,D i),(19,D<|G a),(20,D i),(24,D<|G b),(25,D j)],[(0,.vec 44 .z b),(1000000,.box 44 0<|av .z m),(2006000,.vec 44 .z<|kz a b i j<|iR a b i)],8,[]⟩) (λj=>j<=G b) (λj=>G b-j) 0 (aW _) aM ?_;intro j hj;have C:G (kz a b i j<|iR a b i)=G a+G b-1:=by rw[IG,n]
   refine e J<|L<|z J (λf=>?_)<|λf=>?_
   .have f:j<G b:=by have f:(j:Z)<(G b:Z):=az f;omega
    have p:ad ((i:Z)+(j:Z))=i+j:=S;have w:=abW k l (i:=i) S (Nn k l i S) j<|i+j;have r:af Tryz.prog 105 [.a (av .z<|Y a (ad<|(i:Z)) 0),.a<|av .z<|Y b (ad<|(j:Z)) 0] (aZ<|Y a i 0*Y b j 0):=by rw[aV,aV];exact tb _ _ ((k i).sm S)<|(l j).sm S
    have x:af Tryz.prog 103 [.a (av .z<|Y (kz a b i j<|iR a b i) (ad<|(i:Z)+(j:Z)) 0),aZ<|Y a i 0*Y b j 0] (aZ<|Y (kz a b i j<|iR a b i) (i+j) 0+Y a i 0*Y b j 0):=by rw[p];exact zn _ _ (w.sm S)<|((k i).mul<|l j).sm S
    refine ai<|L<|q<|e J<|bs<|rc J J r (hp:=ak)<|rc J J x<|jx (Y (kz a b i j<|iR a b i) (i+j) 0+Y a i 0*Y b j 0) J J J J J (by rw[C];omega) (o J ?_) (hp:=ak);refine aT<|rt J<|aA (j+1) f Hd<|wk (aS J) ⟨bR J,bR J,bE J ?_,T⟩;rw[kz,p]
   .have f:j=G b:=by have f:¬(j:Z)<(G b:Z):=aL f;omega
    subst f;exact aN<|aT<|rt J<|aA (i+1) h ka<|wk (aS J) ⟨bR J,bR J,bE J J,T⟩
  .have h:i=G a:=by have h:¬(i:Z)<(G a:Z):=aL h;omega
   subst h;have y:=Nn k l (G a) S;have M:=n<|G a;have K:nW a b m=(iR a b<|G a).map (·%m):=rfl;rw[K];generalize iR a b (G a)=d at*;refine aN<|ay ?_;refine L<|e J ?_;refine q<|aK (α:=I) (λi=>⟨[(1,.c<|.X 0),(5,.c<|.P 1000000 0),(7,.c<|.X 2006000),(52,D<|G d),(53,D i)],[(0,.vec 44 .z b),(1000000,.box 44 0<|av .z m),(2006000,.vec 44 .z<|(d.map (·%m)).take i++aE i d)],12,[]⟩) (λi=>i<=G d) (λi=>G d-i) 0 (aW _) aM ?_;intro i s;have B:((d.map (·%m)).take i).length=i:=bP;have Q:((d.map (·%m)).take i++aE i d).length=G d:=bP;have R:((d.map (·%m)).take i++aE i d).getD i 0=Y d i 0:=by rw[aF,vF S,B,gx,rA,jE,<-aF]
   refine e J<|L<|z J (λh=>?_)<|λh=>?_
   .have h:i<G d:=by have h:(i:Z)<(G d:Z):=az h;omega
    have U:af Tryz.prog 162 [.a (av .z<|((d.map (·%m)).take i++aE i d).getD (ad<|(i:Z)) 0),aZ m] (.t [(ae,av .z<|Y d i 0/m),(ae,av .z<|Y d i 0%m),(ah,[.I .i64 0])]):=by rw[aV,R];exact v8 _ m S ((y i).sm S)<|hm.sm S
    refine ai<|L<|q<|e J<|bs<|rc J J U (hp:=ak)<|jx (Y d i 0%m) J J J J J (by show ad (i:Z)<_;rw[aV,Q];exact h) (o J ?_) (hp:=ak);refine aT<|rt J<|aA (i+1) h (S:G d-(i+1)<G d-i)<|wk (aS J) ⟨bR J,bR J,bE J ?_,T⟩;refine aC (aH.vec 44 .z) ?_;rw[aV,jK _ i (by simp;exact h),jR,oR _ _ S,B,gx,lY h,A9,getD_map<|dj m];rfl
   .have h:i=G d:=by have h:¬(i:Z)<(G d:Z):=aL h;omega
    subst h;rw[BO,iW,iI ax];exact aN<|ay<|cD 2006000 J J J<|e J<|bc<|s7 a6 J (a7.refl _) J
def anm a(k:G a<=1000)(b:a≠[])(c:∀i,Sm (Y a i 0))(d:Y a (G a-1) 0=1):af j 90 [N .z a] (cB ae):=by
 refine aD Tryz.func90 ?_;have l:=bX.2 b;refine e J<|L<|e J<|q<|aK (α:=I) (λi=>⟨[(0,N .z a),(5,N .z a),(6,D<|G a),(7,D i)],[],2,[]⟩) (λi=>i<=G a) (λi=>G a-i) 0 (aW _) aM ?_;intro i m;refine e J<|L<|z J (λh=>?_)<|λh=>?_
 .have h:i<G a:=by have h:(i:Z)<(G a:Z):=az h;omega
  have f:af j 157 [.a (av .z<|Y a (ad<|(i:Z)) 0)] (cB ae):=by rw[aV];exact YL _<|c i
  refine ai<|L<|q<|e J (hp:=ak)<|aO J J f J ?_;refine z J (λh2=>nl)<|λ_=>bN<|aT ?_;exact rt J<|aA (i+1) h ka aM
 .refine aN (ay<|t<|rg 18 J J (λh2=>?_)<|λh2=>?_)
  .have g:af j 149 [.a (av .z<|Y a (ad<|((G a:Z)-1)) 0),aZ 1] (D 0):=by have:=G7 (Y a (ad<|((G a:Z)-1)) 0) 1;rw[(S:ad ((G a:Z)-1)=G a-1),d]at this⊢;exact this
   refine eI J J J J J (nL 1 A A) (eI J J J J J g (o J<|bU J) (hp:=ak)) (hp:=ak)
  .exfalso;have h2:¬(G a:Z)>0:=aL h2;omega
def BY(c:V Z):I->Z
 |0=>Y c 0 0
 |i+1=>if Y c (i+1) 0>BY c i then Y c (i+1) 0 else BY c i
def ann c p(l:G c<=1000)(f:c≠[])(b:rp p c):∃a:Z,0<=a/\a<p/\af j 91 [N u c] (cU a):=by
 have g:=bX.2 f;have d:∀i,0<=BY c i/\BY c i<p:=by
  intro i;induction i with
  |zero=>exact b 0
  |succ i k=>
   rw[BY]
   split
   .exact b _
   .exact k
 refine⟨BY c<|G c-1,(d _).1,(d _).2,?_⟩;refine aD Tryz.func91 ?_;refine e J<|L<|e J<|z J (λh=>?_)<|λh=>ai ?_
 .exfalso;have h:(G c:Z)<1:=az h;omega
 refine e J (hp:=ak)<|L<|e J<|q<|aK (α:=I) (λi=>⟨[(0,N u c),(3,cU<|BY c i),(4,D<|(i:Z)+1)],[],5,[]⟩) (λi=>i+1<=G c) (λi=>G c-i) 0 g aM ?_;intro i m;refine L<|e J<|z J (λh=>?_)<|λh=>?_
 .have h:i+1<G c:=by have h:(i:Z)+1<(G c:Z):=az h;omega
  refine ai<|L<|q<|rt J (hp:=ak)<|aT<|rt J<|aA (i+1) h (S:G c-(i+1)<G c-i)<|wk ⟨sR J,sE J ?_,sR J,T⟩ T;refine bA ?_;rw[(S:ad ((i:Z)+1)=i+1)];rfl
 .have h:i=G c-1:=by have h:¬(i:Z)+1<(G c:Z):=aL h;omega
  subst h;exact aN<|ay<|e J<|bU J
def ano(a b:V Z)(f:G a<=1000000):af j 95 [N u a,N u b] (cB<|decide<|a=b):=by
 refine aD Tryz.func95 ?_;refine rr J<|L<|rr J<|z J (λh=>?_)<|λh=>ai ?_
 .have h:=nN h;refine rr J<|bc<|bt<|c9 J<|aC cB ?_;rw[iX (λe=>h oV)]
 .have h:=nO h;refine L<|rr J<|q<|aK (α:=I) (λi=>⟨[(0,N u a),(1,N u b),(12,D<|G a),(13,D i)],[],4,[]⟩) (λi=>i<=G a/\y i a=y i b) (λi=>G a-i) 0 ⟨aW _,ax⟩ aM ?_;rintro i ⟨g,ht⟩;refine rr J (L<|z J (λc=>?_)<|λc=>?_)
  .have c:i<G a:=by have c:(i:Z)<(G a:Z):=az c;omega
   refine ai<|L<|q<|rr J<|rr J (hp:=ak)<|z J (λd=>?_)<|λd=>bN<|aT ?_
   .have d:Y a i 0≠Y b i 0:=nN d;refine rr J<|bc ?_;repeat(first|refine bt ?_|refine eH ?_|refine gf ?_)
    refine c9 J<|aC cB ?_;rw[iX (λe=>d oV)]
   .have d:Y a i 0=Y b i 0:=nO d;exact rt J<|aA (i+1) ⟨c,by rw[jK a i c,jK b i S,ht,d]⟩ ka aM
  .have c:i=G a:=by have c:¬(i:Z)<(G a:Z):=aL c;omega
   subst c;rw[eE,iI S]at ht;refine aN<|ay<|rr J<|bq J<|aC cB ?_;rw[jU ht]
def dM(p:I)(l:I->V Z)(i:I):I->V Z
 |0=>[1]
 |a+1=>if a=i then dM p l i a else(aJ (bT (dM p l i a) (l a) p) (l i) p).2
def fB(F:I->V Z)(m:Z):I->V Z
 |0=>[1]
 |a+1=>nW (fB F m a) (F a) m
def zW(a b:V Z)(next c:Z):V Z:=(be<|G a).map λi=>(Y a i 0-Y b i 0)%next/c
def mb(p:I)(a:V Z)(r:I)(b:Z)(F:I->V Z):V Z:=au<|md p<|zW a (fB F (b*p) r) (b*p) b
def nw(p:I)(a:V Z)(l:I->V Z)(r:I)(b:Z)(F:I->V Z)(i:I):V Z:=(aJ (bT (mb p a r b F) (lC p (dM p l i r)<|l i) p) (l i) p).2
def tK(F c:V Z)(a:Z)(b:I):V Z:=(be<|G F).map λj=>if j<b then Y F j 0+a*Y c j 0 else Y F j 0
def tL(F c:V Z)(a:Z):V Z:=tK F c a<|G F
def cM(p:I)(a:V Z)(l:I->V Z)(r:I):I->I->V Z
 |0=>l
 |b+1=>λi=>tL (cM p a l r b i) (nw p a l r ((p:Z)^(b+1)) (cM p a l r b) i)<|(p:Z)^(b+1)
def tM(p:I)(a:V Z)(l:I->V Z)(r k:I):V (V Z):=(be r).map λi=>(cM p a l r (k-1) i).map (cp · ((p:Z)^k))
def tN F c a b:G (tK F c a b)=G F:=by simp[tK]
def ye F c b d a(f:a<G F):Y (tK F c b d) a 0=if a<d then Y F a 0+b*Y c a 0 else Y F a 0:=by unfold tK;rw[aF,gj,jW f];rfl
def anp F c a:tK F c a 0=F:=by refine lq (tN F c a 0)<|λj d b=>?_;have:=ye F c a 0 j b;rw[M S,aF,aF,bD d,bD b]at this;exact this
def sd{a b:V Z}(f:G a=G b)(g:∀c,c<G a->Y a c 0=Y b c 0):a=b:=by refine lq f<|λc d i=>?_;have:=g c d;rw[aF,aF,bD d,bD i]at this;exact this
def anq F c b a(g:a<G F):(tK F c b a).set a (Y F a 0+b*Y c a 0)=tK F c b (a+1):=by
 refine sd (by rw[fP,tN,tN])<|λj d=>?_;rw[fP,tN]at d;rw[ls _ _ _ _ (by rw[tN];exact g),ye _ _ _ _ _ d,ye _ _ _ _ _ d];by_cases e:a=j
 .subst e;rw[s ax,s S]
 .by_cases f:j<a
  .rw[M S,s f,s S]
  .rw[M S,M f,M S]
def anr{F c}b{d}(f:G c<=d):tK F c b d=tL F c b:=by
 refine sd (by rw[tL,tN,tN])<|λj a=>?_;rw[tN]at a;rw[tL,ye _ _ _ _ _ a,ye _ _ _ _ _ a,s a];split
 .rfl
 .rw[cF c S,dI,mT]
structure pX(p:I)(l:I->V Z)(r:I):Prop where
 hp:cE p
 tO:p<=2147483648
 Np:r<=100
 c:∀i,i<r->aY p (l i)
 l2:∀i,i<r->2<=(l i).length
 EF:∀i,i<r->(l i).length<=100
 qJ:∀i,i<r->fU p (h<|dM p l i r) (h<|l i)
section
variable{p:I}{l:I->V Z}{r:I}(h:pX p l r)
include h
def pX.ne{i:I}(a:i<r):l i≠[]:=λe=>by have:=h.l2 i a;rw[e]at this;simp at this
def pX.yf{i:I}(b:i<r):∀a,a<=r->aY p (dM p l i a)/\G (dM p l i a)<=G (l i)-1
 |0,_=>by have f:=h.hp.1;have:=h.l2 i b;exact⟨⟨pI A S,.inr<|by simp[dM]⟩,by simp[dM];omega⟩
 |a+1,g=>by
  rw[dM];split
  .exact pX.yf b a S
  .have k:=pX.yf b a S;have d:(0:Z)<(p:Z):=Nq;let ⟨d1,d2,d3,d4,d5,d6⟩:=iO h.hp h.tO (je d (dM p l i a)<|l a).1 (h.c i b)<|h.ne b;exact⟨d5<|je d _ _,d4⟩
def pX.inv{i:I}(a:i<r):aY p (lC p (dM p l i r)<|l i)/\G (lC p (dM p l i r)<|l i)<=G (l i)-1/\∃W,aU p W/\Cg p (ps (lC p (dM p l i r)<|l i)*ps (dM p l i r)) (1+W*ps (l i)):=by have b:=h.yf a r<|a8 _;have d:=h.l2 i a;let ⟨f,g,k,_⟩:=Zc h.hp h.tO b.1 (h.c i a) S (h.qJ i a) d;exact⟨f,g,k⟩
def pX.Nr{i:I}(f:i<r)(a:V Z)(b:Z)(F:I->V Z):aY p (mb p a r b F)/\G (mb p a r b F)<=G a/\aY p (nw p a l r b F i)/\G (nw p a l r b F i)<=G (l i)-1:=by have d:(0:Z)<(p:Z):=Nq;have g:aY p (mb p a r b F):=gH d<|pH d _;let ⟨d1,d2,d3,d4,d5,d6⟩:=iO h.hp h.tO (je d (mb p a r b F)<|lC p (dM p l i r)<|l i).1 (h.c i f)<|h.ne f;refine⟨g,?_,d5<|je d _ _,d4⟩;have:=kK<|md p<|zW a (fB F (b*p) r) (b*p) b;rw[oU]at this;simp only[zW,cL,uL]at this;exact this
def pX.st(a:V Z):∀(b i:I),i<r->G (cM p a l r b i)=G (l i)/\∀d,0<=Y (cM p a l r b i) d 0/\Y (cM p a l r b i) d 0<(p:Z)^(b+1)
 |0,i,f=>by rw[Be];exact⟨J,(h.c i f).1⟩
 |b+1,i,f=>by
  let ⟨k,h2⟩:=pX.st a b i f;let ⟨_,_,c1,_⟩:=h.Nr f a ((p:Z)^(b+1))<|cM p a l r b;have g:(0:Z)<(p:Z)^(b+1):=kV Nq;have m:cM p a l r (b+1) i=tK (cM p a l r b i) (nw p a l r ((p:Z)^(b+1)) (cM p a l r b) i) ((p:Z)^(b+1)) (G<|cM p a l r b i):=rfl;rw[m];refine⟨by rw[tN,k],λd=>?_⟩;by_cases e:d<G (cM p a l r b i)
  .rw[ye _ _ _ _ _ e,s e];have C:=h2 d;have n:=c1.1 d;generalize Y (nw p a l r ((p:Z)^(b+1)) (cM p a l r b) i) d 0=c at*;generalize Y (cM p a l r b i) d 0=x at*;have E:=jm (zL g) n.1;have v:(p:Z)^(b+1)*(c+1)<=(p:Z)^(b+1)*p:=ja S<|zL g;rw[nc,lA]at v;rw[dK (p:Z) (b+1)];omega
  .rw[cF _ (by rw[tN];omega)];have B:(0:Z)<(p:Z)^(b+1+1):=kV Nq;omega
end
def abZ{p:I}(b:p<=2147483648):∀k:I,aw (k+1) ((p:Z)^k)
 |0=>by unfold aw;simp
 |k+1=>by have c:=(abZ b k).mul<|aw.one (a:=(p:Z)) S;rwa[<-dK]at c
def ab0{F:I->V Z}{m:Z}:∀a,(∀i,i<a->1<=G (F i))->1<=(fB F m a).length
 |0,_=>a8 _
 |a+1,b=>by
  have c:=ab0 (F:=F) (m:=m) a λi d=>b i S
  have f:=b a<|di a;rw[fB,zT];omega
def Tu{F b:I->V Z}{m d:Z}:∀a,(∀i,i<a->G (F i)=G (b i))->(fB F m a).length=(fB b d a).length
 |0,_=>rfl
 |a+1,c=>by rw[fB,zT,fB,zT,Tu a<|λi f=>c i S,c a<|di a]
def Tv a b{m}(c:0<m) k:0<=Y (nW a b m) k 0/\Y (nW a b m) k 0<m:=by rw[nW,getD_map<|dj m];exact⟨fS _ S,gA _ c⟩
def ans{F:I->V Z}{m:Z}(b:1<m):∀a k,0<=(fB F m a).getD k 0/\(fB F m a).getD k 0<m
 |0,k=>by
  cases k with
  |zero=>exact⟨A1,b⟩
  |succ k=>exact⟨gk _,(S:(0:Z)<m)⟩
 |a+1,k=>Tv _ _ S k
abbrev TP:ET:= .pr (.sl u) u
def ji(l:I->V Z)(r:I)(p:Z):V (V Z×Z):=(be r).map λi=>(l i,p)
def EG{a:Type}(f:I->a) d{i r}(b:i<r):Y ((be r).map f) i d=f i:=by rw[aF,gj,jW b];rfl
def ab1 g:bL g (av TP<|TP.cJ) ([ZV.s,ZV.i .u64].map ZV.gq):=bL.append (aiB u g)<|kH .u64 g
def jY(r i:I):V C:=(be i).map (λj=>C.X<|1+j)++bh (r-i) vN
def BZ{r i K}(k:1+i<=K):∀d∈cy (jY r i),d<K:=R9 λc f l a=>by
 rcases b8.1 f with b|b
 .obtain⟨d,g,rfl⟩:=kY.1 b;have:=jO.1 g;simp only[C.ar,iu]at a;omega
 .rw[Fu b]at a;cases a
def ant r:jY r r=(be r).map λa=>C.X (1+a):=by unfold jY;rw[gx];simp
def Tw r i(a:i<=r):G (jY r i)=r:=by unfold jY;simp;omega
def anu r i(b:i<r) c:(jY r i).set i c=(be i).map (λa=>C.X<|1+a)++c::bh (r-(i+1)) vN:=by unfold jY;rw[oR _ _ ax,(S:r-i=(r-(i+1))+1),uc];simp
def anv r i(a:i<r):(jY r i)[i]? =some vN:=by unfold jY;rw[vF ax,cL,uL,gx,j9,s S]
def anw r i(a:i<r):(jY r i).set i (.X<|1+i)=jY r (i+1):=by rw[anu r i a,jY,nE,fe];simp
def ab2(l:V Z){j}(a:j<G l):y j l++[Y l j 0]=y (j+1) l:=by rw[mM,aF,bD a];rfl
def mv(b B a:I):I:=cond (Nat.beq a b) B a
def tP{b B a}(c:a≠b):mv b B a=a:=by
 unfold mv;cases e:Nat.beq a b with
 |true=>exact absurd (y8 e) c
 |false=>rfl
def Ns a B:mv a B a=B:=by unfold mv;rw[Mk];rfl
def Tx{p:Type}{d B}{m:V (I×p)}(k:w B m=none):∀g c,(w g m).isSome=ae->(w c m).isSome=ae->mv d B g=mv d B c->g=c:=by
 intro a b l n h;by_cases i:a=d
 .by_cases f:b=d
  .omega
  .subst i;rw[Ns,tP f]at h;subst h;rw[k]at n;cases n
 .by_cases f:b=d
  .subst f;rw[Ns,tP i]at h;subst h;rw[k]at l;cases l
  .rwa[tP i,tP f]at h
def mvl{b B a}{l}{v:aH}(c:a≠b)(d:w a l=some v):w (mv b B a) l=some v:=by rwa[tP c]
def anx{b:Type}{a k}{l:V (I×b)}(c:a≠k):w k (vG a l)=w k l:=by rw[F8,M c]
def anz{r}{E}{a}{f:I->V a.den}{c}(d:r<c):w c (gJ r E a f)=none:=by
 cases e:w c (gJ r E a f)with
 |none=>rfl
 |some b=>let ⟨i,g,h2,_⟩:=Me e;omega
def ab4{a:Type}{f:a->a}:∀{l:V a},(∀x∈l,f x=x)->l.map f=l
 |[],_=>rfl
 |x::l,b=>by rw[gZ,b x ax,ab4 λc hy=>b c mV]
def Ty{r i a B}(g:i<a):(jY r i).map (nU<|mv a B)=jY r i:=ab4 λc d=>by
 rcases b8.1 d with b|b
 .obtain⟨j,f,rfl⟩:=kY.1 b;have:=jO.1 f;show C.X (mv a B<|1+j)=_;rw[tP S]
 .rw[Fu b];rfl
def Nt{a b:Type}(f:a->b)(c:a):∀(l:V a)(i:I),(l.set i c).map f=(l.map f).set i (f c)
 |[],_=>rfl
 |_::_,0=>rfl
 |x::l,i+1=>by rw[Fv,gZ,gZ,Fv,Nt f c l i]
def ab5{c:C}{g:I}(a:g∈c.ar):∀{b:V C},c∈b->g∈cy b
 |d::b,i=>by
  rcases df.1 i with f|f
  .subst f;exact fC _ a
  .exact jo _<|ab5 a f
def ab6{r i K d}(f:1+i<=K)(m:d<K):∀g∈cy ((jY r i).set i<|.X d),g<K:=R9 λc k l a=>by
 rcases List.mem_or_eq_of_mem_set k with b|b
 .exact BZ f l<|ab5 a b
 .subst b;simp only[C.ar,iu]at a;omega
def nX(p:I)(l:I->V Z)(r i:I):V (V Z×Z):=(be i).map (λj=>(lC p (dM p l j r)<|l j,(p:Z)))++bh (r-i) ([],0)
def anA p(l:I->V Z) r i(a:i<r):(nX p l r i).set i (lC p (dM p l i r)<|l i,(p:Z))=nX p l r (i+1):=by unfold nX;rw[oR _ _ ax,(S:r-i=(r-(i+1))+1),uc,nE,fe];simp
def Tz p(l:I->V Z) r i(a:i<=r):G (nX p l r i)=r:=by unfold nX;simp;omega
def anB p(l:I->V Z) r{i}(a:i<r):Y (nX p l r r) i ([],0)=(lC p (dM p l i r)<|l i,(p:Z)):=by unfold nX;rw[gx,uz,iW,EG _ _ a]
abbrev IJ(l:I->V Z)(xs:V (V Z×Z))(a:V C)(ex:V (I×aH))(i:I):V (I×aH):=(1002000,.box 57 0 a)::(2002000,.vec 101 TP xs)::(ex++gJ i 44 .z l)
def zX{l:I->V Z}{xs}{c}{ex}{i K}(a:∀d∈cy c,d<K)(b:eC K ex)(g:i<=100)(k:3000000<=K):eC K (IJ l xs c ex i):=
 .cons S a (.cons S (λd f=>by cases f)<|.app b<|.gJ S)
abbrev anC(l:I->V Z)(xs:V (V Z×Z))(r i:I):I->V (I×aH)
 |0=>IJ l xs (jY r i) [] i
 |a+1=>IJ l xs ((jY r i).set i<|.X 900000) [(900000,.vec 44 .z<|y (a+1)<|l i)] i
def anD{Q}{p}{l:I->V Z}{r}(H:pX p l r)(a:V Z)(k:I) dT
  (rest:TR j 231 dT ⟨[(0,N .z a),(1,N TP<|ji l r p),(2,cU p),(3,D k),(9,.c<|.L 1002000 0 r<|some r),(10,.c<|.X 2002000)],[(2002000,.vec 101 TP<|nX p l r r)]++eU 1002000 57 r 44 .z l,5,[]⟩ Q) {c0 c1 c2 c3}(d:Tryz.f97.body=some (.seq c0<|.seq c1<|.seq c2<|.seq c3 dT)):
  TR j 231 (.seq c0<|.seq c1<|.seq c2<|.seq c3 dT) ⟨k8 0 [N .z a,N TP<|ji l r p,cU p,D k],[],0,[]⟩ Q:=by
 generalize hz:dT=f at rest⊢
 cases d
 clear hz
 have hr:=H.Np
 have h2:=H.hp.1
 have tO:=H.tO
 have n:G (ji l r p)=r:=by simp[ji]
 have x:∀i,i<r->Y (ji l r p) i ([],0)=(l i,(p:Z)):=λi B=>EG _ _ B
 refine e J<|t ?_
 refine rk 2 J J<|Zy a6 r (hx:=aC (λf:I=>some<|D (f:Z)) n) J J J A (by show r*24<=_;omega) S<|o J ?_
 refine t<|rm TP r J J J J J J ab1 (by rw[n]) ?_ ?_<|o J ?_
 .show _*32<=_;omega
 .show _*2<=_;omega
 refine oq _ rest<|λte=>e J<|q<|aK (α:=I) (λi=>⟨[(0,N .z a),(1,N TP<|ji l r p),(2,cU p),(3,D k),(9,.c<|.L 1002000 0 r<|some r),(10,.c<|.X 2002000),(43,N TP<|ji l r p),(44,D r),(45,D i)],IJ l (nX p l r i) (jY r i) [] i,4,[]⟩) (λi=>i<=r) (λi=>r-i) 0 (aW _) ?_ ?_
 .refine HK ⟨sR J,sR J,sR J,sR J,sR J,sR J,sR J,⟨_,J,a7.of_eq<|aC (λf:I=>D (f:Z)) n⟩,sR J,T⟩ ⟨bE J ?_,bE J ?_,T⟩ (zX (BZ (A:1+0<=1000000*4)) .nil S (A:3000000<=1000000*4))
  .exact aC (aH.box 57 0)<|Sk vN r
  .rfl
 intro i B
 refine e J<|L<|z J (λh=>?_)<|λh=>?_
 .have h:i<r:=by have h:(i:Z)<(r:Z):=az h;omega
  have C:=H.c i h;have hli:=H.EF i h;have EH:=H.l2 i h;have hp0:(0:Z)<(p:Z):=S;have R:af j 125 [.a (av TP<|Y (ji l r p) (ad<|(i:Z)) ([],0)),cU 1] (aP [1] p):=by rw[aV,x i h];exact zv (l i) 1 p hp0 S A S
  refine ai<|L<|q<|e J<|aO J J R J ?_;refine L<|e J<|q<|aK (α:=I) (λb=>⟨[(0,N .z a),(1,N TP<|ji l r p),(2,cU p),(3,D k),(9,.c<|.L 1002000 0 r<|some r),(10,.c<|.X 2002000),(11,D i),(12,.c<|.P 5003000 0),(13,.c<|.P 6002000 0),(43,N TP<|ji l r p),(44,D r),(45,D i),(52,N TP<|ji l r p),(53,D r),(54,D b)],IJ l (nX p l r i) (jY r i) [(5003000,.box 101 0 [.S u (l i),.I .u64 p]),(6002000,.box 101 0 [.S u (dM p l i b),.I .u64 p])] i,8,[]⟩) (λb=>b<=r) (λb=>r-b) 0 (aW _) ?_ ?_
  .refine HK ⟨sR J,sR J,sR J,sR J,sR J,sR J,sR J,sR J,sR J,sR J,sR J,sR J,sR J,sE J ?_,sR J,T⟩ ⟨bR J,bR J,bE J ?_,bR J,iV.gJ λv E=>cw⟩ (zX (BZ TA) (eC.of J) S TB)
   .exact aC (λf:I=>D (f:Z)) n
   .exact aC (λf:V Z×Z=>aH.box 101 0 [.S u f.1,.I .u64 f.2])<|x i h
  intro b hj;have U:=H.yf h b hj;refine e J<|L<|z J (λd=>?_)<|λd=>?_
  .have g:b<r:=by have d:(b:Z)<(r:Z):=az d;omega
   have hcj:=H.c b g;have YP:=H.EF b g;have F:af j 159 [aP (l i) p,aP (dM p l i b) p,.a<|av TP<|Y (ji l r p) (ad<|(b:Z)) ([],0)] (aP (aJ (bT (dM p l i b) (l b) p) (l i) p).2 p):=by rw[aV,x b g];exact Hv p H.hp H.tO (l i) (dM p l i b) (l b) S S S C U.1 hcj<|H.ne h
   refine ai<|L<|q<|e J<|e J<|z J (λm=>?_)<|λm=>?_
   .have m:b≠i:=λbZ=>by subst bZ;exact absurd J (nN m)
    refine bs<|rc J J F<|o J ?_;refine aT<|rt J<|aA (b+1) g (S:r-(b+1)<r-b)<|HK (aS J) ⟨bR J,bR J,bR J,bE J ?_,iV.gJ λv E=>cw⟩<|zX (BZ TA) (eC.of J) S TB;rw[dM,M m];rfl
   .have m:b=i:=by have:=nO m;omega
    refine bN ?_;refine aT<|rt J<|aA (b+1) g (S:r-(b+1)<r-b)<|HK (aS J) ⟨bR J,bR J,bR J,bE J ?_,iV.gJ λv E=>cw⟩<|zX (BZ TA) (eC.of J) S TB;rw[dM,s m]
  .have g:r=b:=by have d:¬(b:Z)<(r:Z):=aL d;omega
   subst g;have W:=akM p H.hp H.tO (dM p l i r) (l i) S U.1 C S (H.qJ i h) EH;refine aN<|ay ?_;refine t<|rc J J W<|jx (lC p (dM p l i r)<|l i,(p:Z)) J J J J J ?_ (o J ?_) (hp:=?_)
   .rw[Tz p l r i B];omega
   .refine e J (q<|aK (α:=I) (λb=>⟨[(0,N .z a),(1,N TP<|ji l r p),(2,cU p),(3,D k),(9,.c<|.L 1002000 0 r<|some r),(10,.c<|.X 2002000),(11,D i),(43,N TP<|ji l r p),(44,D r),(45,D i),(74,N u<|l i),(75,D<|G<|l i),(76,D b)],anC l (nX p l r<|i+1) r i b,12,[]⟩) (λb=>b<=G (l i)) (λb=>G (l i)-b) 0 (aW _) ?_ ?_)
    .refine HK (aS J) ⟨bR J,bE J ?_,iV.gJ λv E=>cw⟩<|zX (BZ TC) .nil S TD;exact aC (aH.vec 101 TP)<|anA p l r i h
    intro b hj;have hel:=C.1 b;have w:af j 100 [.c (num .i64<|Y (l i) (ad<|(b:Z)) 0).1] (aZ<|Y (l i) b 0):=by rw[aV];exact nL _ S S
    have ab8: -9223372036854775808<=Y (l i) (ad<|(b:Z)) 0/\Y (l i) (ad<|(b:Z)) 0<=9223372036854775807:=by rw[aV];omega
    cases b with
    |zero=>
     refine e J<|L<|z J (λd=>?_)<|λd=>?_
     .refine ai<|L<|q<|e J<|bs ?_;refine iZ J J ?_ (mz a6 (c:=vN) J J ?_ J ?_)
      .exact⟨H9,Nu⟩
      .show(jY r i)[0+ad ((i:Z))*1]? =_;rw[aV,dU,kI];exact anv r i h
      refine rc J J w ?_ (hp:=TE);refine rl .z [Y (l i) 0 0] J J (Qt J J J J J J J J ?_ ?_ ?_)
      .show _*32<=_;simp
      .show _*2<=_;simp
      refine iZ J J ?_<|Ed a6 J J J J J ?_<|o J ?_ (ho:=pN j8)
      .exact⟨H9,Nu⟩
      .show 0+ad ((i:Z))*1<_;rw[Tw r i B];omega
      .refine aT (rt J<|aA 1 S (S:G (l i)-1<G (l i)-0)<|wi (mv 900000 14010000) ⟨sR J,sR J,sR J,sR J,sR J,sR J,sR J,sR J,sR J,sR J,sR J,sR J,sR J,T⟩ ⟨bE J ?_,bR J,bE J ?_,ke.gJ λv E=>?_⟩ J (Tx TF)<|zX (ab6 TC (A:900000<1000000*12)) (eC.of J) S TD)
       .show aH.box 57 0 ((jY r i).set (0+ad ((i:Z))*1)<|.X 14010000)=aH.box 57 0 (((jY r i).set i<|.X 900000).map<|nU<|mv 900000 14010000);rw[Nt,Ty S,aV,dU,kI];rfl
       .exact aC (aH.vec 44 .z)<|ab2 (l i) (j:=0) S
       .rw[tP S];exact cw
     .exfalso;have d:¬((0:I):Z)<(G (l i):Z):=aL d;omega
    |succ b=>
     have O:G (y (b+1)<|l i)=b+1:=v7
     refine e J<|L<|z J (λd=>?_)<|λd=>?_
     .have K:b+1<G (l i):=by have d:((b+1:I):Z)<(G (l i):Z):=az d;omega
      refine ai<|L<|q<|e J<|bs ?_;refine iZ J J ?_<|mz a6 (c:= .X 900000) J J ?_ J ?_
      .exact⟨H9,Nu⟩
      .show((jY r i).set i<|.X 900000)[0+ad ((i:Z))*1]? =_;rw[aV,dU,kI,List.getElem?_set_self<|by rw[Tw r i B];omega]
      refine rc J J w ?_ (hp:=TE);refine rl .z [Y (l i) (b+1) 0] J J (ra J J J J J J J J J ?_ ?_ ?_)
      .show(_+1+(_+1)/4+192)*32<=_;rw[O];omega
      .show(_+1)*2<=_;rw[O];omega
      refine iZ J J ?_<|Ed a6 J J J J J ?_<|o J ?_ (ho:=pN j8)
      .exact⟨H9,Nu⟩
      .show 0+ad ((i:Z))*1<_;rw[fP,Tw r i B];omega
      .refine aT (rt J<|aA (b+1+1) S (S:G (l i)-(b+1+1)<G (l i)-(b+1))<|wi (mv 900000 14010000) ⟨sR J,sR J,sR J,sR J,sR J,sR J,sR J,sR J,sR J,sR J,sR J,sR J,sR J,T⟩ ⟨bE J ?_,bR J,bE J ?_,ke.gJ λv E=>?_⟩ J (Tx TF)<|zX (ab6 TC (A:900000<1000000*12)) (eC.of J) S TD)
       .show aH.box 57 0 (((jY r i).set i<|.X 900000).set (0+ad ((i:Z))*1)<|.X 14010000)=aH.box 57 0 (((jY r i).set i<|.X 900000).map<|nU<|mv 900000 14010000);rw[Nt,Ty S,aV,dU,kI,List.set_set];rfl
       .exact aC (aH.vec 44 .z)<|ab2 (l i) K
       .rw[tP S];exact(by(repeat(refine(eV S).trans ?_));refine(anx S).trans ?_;(repeat(refine(eV S).trans ?_));exact HL S)
     .have K:G (l i)=b+1:=by have d:¬((b+1:I):Z)<(G (l i):Z):=aL d;omega
      have hta:y (b+1) (l i)=l i:=by rw[<-K,eE]
      refine aN<|aT<|rt J<|aA (i+1) h (S:r-(i+1)<r-i)<|wi (mv (1+i) 900000) ⟨sR J,sR J,sR J,sR J,⟨_,J,a7.of_eq<|aC (λf=>AV.c<|.L f 0 r<|some r) (tP S).symm⟩,⟨_,J,a7.of_eq<|aC (λf=>AV.c<|.X f) (tP S).symm⟩,sR J,sR J,sR J,T⟩ ⟨⟨_,mvl S J,cK.of_eq ?_⟩,⟨_,mvl S J,cK.refl _⟩,ke.gJ λv E=>?_⟩ (tP S) (Tx TF)<|zX (BZ (S:1+(i+1)<=1000000*4)) .nil S (A:3000000<=1000000*4)
      .show aH.box 57 0 ((jY r i).set i<|.X 900000)=aH.box 57 0 ((jY r<|i+1).map<|nU<|mv (1+i) 900000);rw[<-anw r i h,Nt,Ty S];show _=aH.box 57 0 ((jY r i).set i<|.X<|mv (1+i) 900000<|1+i);rw[Ns]
      .by_cases bZ:v=i
       .subst bZ;rw[Ns];exact aC (λf=>some<|aH.vec 44 .z f) hta
       .rw[tP S];exact cw
   .have:=Tz p l r i B;simp only[Pr.an,Pr.h,num,eO,true_and,and_true];omega
 .have Gw:r=i:=by have h:¬(i:Z)<(r:Z):=aL h;omega
  subst Gw;refine aN<|fH te<|iP (aS J) ⟨bR J,T⟩ (aC (λf=>some<|aH.box 57 0 f)<|ant r) (λv E=>cw) S
structure o0(p:I)(a:V Z)(l:I->V Z)(r k w:I):Prop where
 H:pX p l r
 k1:1<=k
 ab9:k<=1000
 la:a.length<=400
 Nv:w<=1000
 ha:∀i,aw w (a.getD i 0)
 rC:a.length=(fB l p r).length
def ab'{F:I->V Z}{m:Z}:∀b a,(∀i,i<a+b->1<=G (F i))->(fB F m a).length<=(fB F m<|a+b).length
 |0,_,_=>a8 _
 |b+1,a,c=>by
  have d:=ab' (m:=m) b a λi f=>c i S
  have g:=c (a+b) S;have k:(fB F m<|a+(b+1)).length=(fB F m<|a+b).length+G (F<|a+b)-1:=zT _ _ _;omega
def vd(a b:V Z)(next c:Z)(d:I):V Z:=(be<|G a).map λi=>if i<d then(Y a i 0-Y b i 0)%next/c else 0
def yg a pr next b c:G (vd a pr next b c)=G a:=by simp[vd]
def Nw a pr next b c{i}(d:i<G a):Y (vd a pr next b c) i 0=if i<c then(Y a i 0-Y pr i 0)%next/b else 0:=EG _ _ d
def anH a pr next c:bh (G a) (0:Z)=vd a pr next c 0:=by
 refine sd (by rw[yg,fo]) λj b=>?_
 rw[fo]at b;rw[Nw _ _ _ _ _ b,M S,aF,j9,s b];rfl
def anI a pr next c b(g:b<G a):(vd a pr next c b).set b ((Y a b 0-Y pr b 0)%next/c)=vd a pr next c (b+1):=by
 refine sd (by rw[fP,yg,yg]) λj d=>?_
 rw[fP,yg]at d;rw[ls _ _ _ _ (by rw[yg];exact g),Nw _ _ _ _ _ d,Nw _ _ _ _ _ d];by_cases e:b=j
 .subst e;rw[s ax,s S]
 .by_cases f:j<b
  .rw[M S,s f,s S]
  .rw[M S,M f,M S]
def anJ a pr next b:vd a pr next b (G a)=zW a pr next b:=by unfold vd zW;exact DO λi c=>s<|jO.1 c
def EI{r a}(b:a<r):((be r).map λi=>C.X<|1+i)[0+ad ((a:Z))*1]? =some (.X<|1+a):=by rw[aV,dU,kI,gj,jW b];rfl
section
variable{p:I}{a:V Z}{l:I->V Z}{r k w:I}(A:o0 p a l r k w){s:I}
include A
def o0.Nx(s:I):(0:Z)<(p:Z)^s:=kV (by have:=A.H.hp.1;omega)
def o0.qB(s:I):aw (s+1) ((p:Z)^s):=abZ A.H.tO s
def o0.q1(s:I):(1:Z)<(p:Z)^(s+1):=by have b:=A.Nx s;have c:=A.H.hp.1;rw[dK];have:=ja (S:(2:Z)<=(p:Z))<|zL b;omega
def o0.FB(s i:I)(c:i<r)(b:I):aw (s+2) (Y (cM p a l r s i) b 0):=by let ⟨_,h⟩:=A.H.st a s i c;exact aw.lt (h b).1 (h b).2<|A.qB<|s+1
def o0.IK(s i:I)(b:i<r):G (cM p a l r s i)=G (l i):=(A.H.st a s i b).1
def o0.Fne(s i:I)(b:i<r):cM p a l r s i≠[]:=λe=>by have c:=A.IK s i b;have d:=A.H.l2 i b;rw[e]at c;simp at c;omega
def o0.acb(s:I)(m:Z):(fB (cM p a l r s) m r).length=G a:=by rw[A.rC];exact Tu r λi b=>A.IK s i b
def o0.Ple(s:I)(m:Z)(b:I)(f:b<=r):1<=(fB (cM p a l r s) m b).length/\(fB (cM p a l r s) m b).length<=G a:=by
 have d:∀i,i<r->1<=G (cM p a l r s i):=λi c=>bX.2<|A.Fne s i c
 refine⟨ab0 b λi c=>d i S,?_⟩;have h:=ab' (F:=cM p a l r s) (m:=m) (r-b) b λi c=>d i S
 rw[(S:b+(r-b)=r),A.acb s m]at h;exact h
def o0.PB(s b c:I):aw (s+3) ((fB (cM p a l r s) ((p:Z)^(s+1)*(p:Z)) b).getD c 0):=by have h:=A.q1<|s+1;rw[dK]at h;have d:=A.qB<|s+2;rw[dK]at d;let ⟨f,g⟩:=ans (F:=cM p a l r s) h b c;exact aw.lt f g d
end
def gP(p:I)(a:V Z)(l:I->V Z)(r b i:I)(C:V Z)(c:I):I->V Z:=λq=>if q<i then cM p a l r (b+1) q else if q=i then tK (cM p a l r b i) C ((p:Z)^(b+1)) c else cM p a l r b q
def anL p a(l:I->V Z) r c i C b:gP p a l r c i C 0 b=if b<i then cM p a l r (c+1) b else cM p a l r c b:=by
 unfold gP;split
 .rfl
 .split
  .rename_i e;subst e;exact anp _ _ _
  .rfl
def IL p a(l:I->V Z) r b i C c:gP p a l r b i C c i=tK (cM p a l r b i) C ((p:Z)^(b+1)) c:=by unfold gP;rw[M S,s J]
def anM p a(l:I->V Z) r c i C f g{b}(d:b≠i):gP p a l r c i C f b=gP p a l r c i C g b:=by unfold gP;rw[M d,M d]
def anN p a(l:I->V Z) r c i C(f:nw p a l r ((p:Z)^(c+1)) (cM p a l r c) i=C) b:gP p a l r c i C C.length b=if b<i+1 then cM p a l r (c+1) b else cM p a l r c b:=by
 by_cases e:b=i
 .subst e;rw[IL,s S,anr _<|a8 _,<-f];rfl
 .unfold gP;rw[M e];by_cases d:b<i
  .rw[s d,s S]
  .rw[M d,M S]
def anO{Q}{p}{l:I->V Z}{r}{a}{k mc}(d:o0 p a l r k mc) dT
  (rest:TR j 231 dT ⟨[(9,.c<|.L 1002000 0 r<|some r),(19,.c<|.P 6001000 0)],[(6001000,.box 44 0<|av .z<|(p:Z)^k)]++eU 1002000 57 r 44 .z (cM p a l r<|k-1),9,[]⟩ Q) {c0 c1 c2 c3 d0 d1 d2}(hc:Tryz.f97.body=some (.seq c0<|.seq c1<|.seq c2<|.seq c3<|.seq d0<|.seq d1<|.seq d2 dT)):
  TR j 231 (.seq d0<|.seq d1<|.seq d2 dT) ⟨[(0,N .z a),(1,N TP<|ji l r p),(2,cU p),(3,D k),(9,.c<|.L 1002000 0 r<|some r),(10,.c<|.X 2002000)],[(2002000,.vec 101 TP<|nX p l r r)]++eU 1002000 57 r 44 .z l,5,[]⟩ Q:=by
 generalize hz:dT=x at rest⊢
 cases hc
 clear hz
 have hr:=d.H.Np
 have h2:=d.H.hp.1
 have R:=d.H.tO
 have J5:=d.k1
 have oe:=d.ab9
 have GW:=d.la
 have anP:G (ji l r p)=r:=by simp[ji]
 have GY:∀i,i<r->Y (ji l r p) i ([],0)=(l i,(p:Z)):=λi hi=>EG _ _ hi
 have anQ:af j 100 [.c (num .i64 (p:Z)).1] (aZ p):=nL _ S S
 refine aO J J anQ J<|e J ?_
 refine oq _ rest<|λte=>e J<|q<|aK (α:=I) (λb=>⟨[(0,N .z a),(1,N TP<|ji l r p),(2,cU p),(9,.c<|.L 1002000 0 r<|some r),(10,.c<|.X 2002000),(18,.c<|.P 5003000 0),(19,.c<|.P 6001000 0),(99,D<|(k:Z)-1),(100,D b)],[(2002000,.vec 101 TP<|nX p l r r),(5003000,.box 44 0<|av .z (p:Z)),(6001000,.box 44 0<|av .z<|(p:Z)^(b+1))]++eU 1002000 57 r 44 .z (cM p a l r b),8,[]⟩) (λb=>b+1<=k) (λb=>k-b) 0 S ?_ ?_
 .refine iP (aS J) ⟨bR J,bR J,bE J ?_,T⟩ J (λn B=>cw) S;exact aC (λx=>aH.box 44 0<|av .z x) (by rw[Be])
 intro b hs
 have B:=d.Nx<|b+1
 have F:=d.qB<|b+1
 have U:(0:Z)<(p:Z)^(b+1)*p:=by rw[<-dK];exact d.Nx<|b+2
 have K:aw (b+3) ((p:Z)^(b+1)*(p:Z)):=by rw[<-dK];exact d.qB<|b+2
 have hpS:Sm (p:Z):=Sm.of S
 refine e J<|L<|z J (λh=>?_)<|λh=>?_
 .have W:b+1<k:=by have h:(b:Z)<(k:Z)-1:=az h;omega
  have hmul:=tb ((p:Z)^(b+1)) p (F.sm S) hpS;have anS:af j 100 [D 1] (aZ 1):=nL 1 S S;refine ai<|L<|q<|aO J J hmul J<|rb<|rc J J anS<|rl .z [1] J J (o J ?_);refine L<|rb<|iZ J J T<|o J<|q<|aK (α:=I) (λm=>⟨[(0,N .z a),(1,N TP<|ji l r p),(2,cU p),(9,.c<|.L 1002000 0 r<|some r),(10,.c<|.X 2002000),(18,.c<|.P 5003000 0),(19,.c<|.P 6001000 0),(20,.c<|.P 9003000 0),(21,N .z<|fB (cM p a l r b) ((p:Z)^(b+1)*(p:Z)) m),(99,D<|(k:Z)-1),(100,D b),(107,.c<|.L 1002000 0 r<|some r),(108,D r),(109,D m)],[(2002000,.vec 101 TP<|nX p l r r),(5003000,.box 44 0<|av .z (p:Z)),(6001000,.box 44 0<|av .z<|(p:Z)^(b+1)),(9003000,.box 44 0<|av .z<|(p:Z)^(b+1)*(p:Z))]++eU 1002000 57 r 44 .z (cM p a l r b),12,[]⟩) (λm=>m<=r) (λm=>r-m) 0 (aW _) ?_ ?_
  .exact iP (aS J) (jv J) J (λn B=>cw) S
  intro m hj;refine e J<|L<|z J (λh=>?_)<|λh=>?_
  .have v:m<r:=by have h:(m:Z)<(r:Z):=az h;omega
   let ⟨EJ,EH⟩:=d.Ple b ((p:Z)^(b+1)*(p:Z)) m hj;have TG:=d.IK b m v;have YP:=d.H.EF m v;have TH:=anl (fB (cM p a l r b) ((p:Z)^(b+1)*(p:Z)) m) (cM p a l r b m) ((p:Z)^(b+1)*(p:Z)) (b+3) (b+2) S S S (λbZ=>by rw[bZ]at EJ;simp at EJ) (d.Fne b m v) U (d.PB b m) (d.FB b m v)<|K.le S;refine ai<|L<|q<|rb ?_;refine iZ J J ?_<|mz a6 (c:= .X<|1+m) J J ?_ J<|o J ?_ (ho:=pN j8)
   .exact⟨(S:(0:Z)<=(m:Z)),(S:(m:Z)<(r:Z))⟩
   .exact EI v
   refine bs<|nJ (1+m) J TH J cw<|o J ?_ (ho:=pN j8);refine aT<|rt J<|aA (m+1) v (S:r-(m+1)<r-m)<|iP (aS J) ⟨⟨_,(eV S).trans J,cK.refl _⟩,⟨_,(eV S).trans J,cK.refl _⟩,⟨_,(eV S).trans J,cK.refl _⟩,⟨_,(eV S).trans J,cK.refl _⟩,T⟩ ((eV S).trans J) (λn B=>?_) S;by_cases bZ:n=m
   .subst bZ;exact BE
   .refine(eV S).trans ?_;exact cw
  .have v:r=m:=by have h:¬(m:Z)<(r:Z):=aL h;omega
   subst v;have hPl:=d.acb b<|(p:Z)^(b+1)*(p:Z);have hPB:=d.PB b r;refine aN<|ay ?_;refine rb<|rm .z (G a) J J J J J J (λg=>xr g) J ?_ ?_<|o J ?_
   .show _*32<=_;omega
   .show _*2<=_;omega
   generalize hP:fB (cM p a l r b) ((p:Z)^(b+1)*(p:Z)) r=P at*;refine L<|e J<|q<|aK (α:=I) (λi=>⟨[(0,N .z a),(1,N TP<|ji l r p),(2,cU p),(9,.c<|.L 1002000 0 r<|some r),(10,.c<|.X 2002000),(18,.c<|.P 5003000 0),(19,.c<|.P 6001000 0),(20,.c<|.P 9003000 0),(21,N .z P),(24,.c<|.X 13002000),(99,D<|(k:Z)-1),(100,D b),(122,D<|G a),(123,D i)],[(2002000,.vec 101 TP<|nX p l r r),(5003000,.box 44 0<|av .z (p:Z)),(6001000,.box 44 0<|av .z<|(p:Z)^(b+1)),(9003000,.box 44 0<|av .z<|(p:Z)^(b+1)*(p:Z)),(13002000,.vec 44 .z<|vd a P ((p:Z)^(b+1)*(p:Z)) ((p:Z)^(b+1)) i)]++eU 1002000 57 r 44 .z (cM p a l r b),15,[]⟩) (λi=>i<=G a) (λi=>G a-i) 0 (aW _) ?_ ?_
   .exact iP (aS J) ⟨bR J,bR J,bR J,bR J,⟨_,J,cK.of_eq<|aC (aH.vec 44 .z)<|anH a P _ _⟩,T⟩ J (λn B=>cw) S
   intro i hi;refine e J<|L<|z J (λh=>?_)<|λh=>?_
   .have E:i<G a:=by have h:(i:Z)<(G a:Z):=az h;omega
    have hw:=d.Nv;have AR:af j 163 [.a (av .z<|Y a (ad<|(i:Z)) 0),.a<|av .z<|Y P (ad<|(i:Z)) 0] (aZ<|Y a i 0-Y P i 0):=by rw[aV];exact Rd _ _ ((d.ha i).sm S)<|(hPB i).sm S
    have hd1:=v8 (Y a i 0-Y P i 0) ((p:Z)^(b+1)*(p:Z)) S (((d.ha i).le<|Nat.le_max_left mc<|b+3).sub ((hPB i).le<|Nat.le_max_right mc<|b+3)|>.sm S)<|K.sm S;have Eu:=v8 ((Y a i 0-Y P i 0)%((p:Z)^(b+1)*(p:Z))) ((p:Z)^(b+1)) S ((aw.emod U K).sm S)<|F.sm S;refine ai<|L<|q<|e J<|rb<|rc J J AR<|rc J J hd1<|o J ?_;refine bs<|rc J J Eu<|jx ((Y a i 0-Y P i 0)%((p:Z)^(b+1)*(p:Z))/(p:Z)^(b+1)) J J J J J ?_ (o J ?_) (hp:=?_)
    .rw[yg,aV];exact E
    .refine aT<|rt J<|aA (i+1) E ka<|iP (aS J) ⟨bR J,bR J,bR J,bR J,⟨_,J,cK.of_eq<|aC (aH.vec 44 .z)<|anI a P _ _ i E⟩,T⟩ J (λn B=>cw) S
    .have:=yg a P ((p:Z)^(b+1)*(p:Z)) ((p:Z)^(b+1)) i;simp only[Pr.an,Pr.h,num,eO,true_and,and_true];omega
   .have E:i=G a:=by have h:¬(i:Z)<(G a:Z):=aL h;omega
    subst E;have anU:au (md p<|vd a P ((p:Z)^(b+1)*(p:Z)) ((p:Z)^(b+1))<|G a)=mb p a r ((p:Z)^(b+1)) (cM p a l r b):=by rw[anJ,mb,hP]
    have oP:=S4 (vd a P ((p:Z)^(b+1)*(p:Z)) ((p:Z)^(b+1))<|G a) p (by rw[yg];omega) h2 R (λt=>by
     by_cases ht:t<G a
     .rw[Nw _ _ _ _ _ ht,s ht];exact(aw.ediv (fS _ S) B<|aw.emod U K).sm S
     .rw[cF _ (by rw[yg];omega)];exact(aw.zero 1).sm S)
    rw[anU]at oP;refine aN<|ay ?_;refine HR 13002000 J J J S ?_;refine aO J J oP J ?_;refine L<|e J<|q<|aK (α:=I) (λi=>⟨[(0,N .z a),(1,N TP<|ji l r p),(2,cU p),(9,.c<|.L 1002000 0 r<|some r),(10,.c<|.X 2002000),(18,.c<|.P 5003000 0),(19,.c<|.P 6001000 0),(20,.c<|.P 9003000 0),(29,.c<|.P 16003000 0),(99,D<|(k:Z)-1),(100,D b),(155,N TP<|ji l r p),(156,D r),(157,D i)],[(2002000,.vec 101 TP<|nX p l r r),(5003000,.box 44 0<|av .z (p:Z)),(6001000,.box 44 0<|av .z<|(p:Z)^(b+1)),(9003000,.box 44 0<|av .z<|(p:Z)^(b+1)*(p:Z)),(16003000,.box 101 0 [.S u (mb p a r ((p:Z)^(b+1))<|cM p a l r b),.I .u64 p])]++eU 1002000 57 r 44 .z (λn=>if n<i then cM p a l r (b+1) n else cM p a l r b n),18,[]⟩) (λi=>i<=r) (λi=>r-i) 0 (aW _) ?_ ?_
    .refine iP ⟨sR J,sR J,sR J,sR J,sR J,sR J,sR J,sR J,sR J,sR J,sR J,sR J,sE J ?_,sR J,T⟩ (jv J) J (λn B=>?_) S
     .exact aC (λx:I=>D (x:Z)) anP
     .exact cw
    intro i hi;refine e J<|L<|z J (λh=>?_)<|λh=>?_
    .have f:i<r:=by have h:(i:Z)<(r:Z):=az h;omega
     let ⟨m1,m2,m3,m4⟩:=d.H.Nr f a ((p:Z)^(b+1))<|cM p a l r b;let ⟨v1,v2,_⟩:=d.H.inv f;have hli:=d.H.EF i f;have TG:=d.IK b i f;have avo:=Tz p l r r<|a8 _;have O:af j 159 [.a (av TP<|Y (ji l r p) (ad<|(i:Z)) ([],0)),aP (mb p a r ((p:Z)^(b+1))<|cM p a l r b) p,.a<|av TP<|Y (nX p l r r) (ad<|(i:Z)) ([],0)] (aP (nw p a l r ((p:Z)^(b+1)) (cM p a l r b) i) p):=by rw[aV,GY i f,anB p l r f];exact Hv p d.H.hp R (l i) _ (lC p (dM p l i r)<|l i) S S S (d.H.c i f) m1 v1<|d.H.ne f
     have hFi:=d.FB b i f;generalize hC:nw p a l r ((p:Z)^(b+1)) (cM p a l r b) i=C at*;refine ai<|L<|q<|e J<|aO J J O J ?_;refine q<|aK (α:=I) (λt=>⟨[(0,N .z a),(1,N TP<|ji l r p),(2,cU p),(9,.c<|.L 1002000 0 r<|some r),(10,.c<|.X 2002000),(18,.c<|.P 5003000 0),(19,.c<|.P 6001000 0),(20,.c<|.P 9003000 0),(29,.c<|.P 16003000 0),(30,D i),(99,D<|(k:Z)-1),(100,D b),(155,N TP<|ji l r p),(156,D r),(157,D i),(169,N u C),(170,D C.length),(171,D t)],[(2002000,.vec 101 TP<|nX p l r r),(5003000,.box 44 0<|av .z (p:Z)),(6001000,.box 44 0<|av .z<|(p:Z)^(b+1)),(9003000,.box 44 0<|av .z<|(p:Z)^(b+1)*(p:Z)),(16003000,.box 101 0 [.S u (mb p a r ((p:Z)^(b+1))<|cM p a l r b),.I .u64 p])]++eU 1002000 57 r 44 .z (gP p a l r b i C t),21,[]⟩) (λt=>t<=C.length) (λt=>C.length-t) 0 (aW _) ?_ ?_
     .refine iP (aS J) (jv J) J (λn B=>?_) S;refine Eq.trans (cw)<|aC (λx=>some<|aH.vec 44 .z x) (anL p a l r b i C n).symm
     intro t ht;have hct:=m3.1 t;have hof:af j 100 [.c (num .i64<|C.getD (ad<|(t:Z)) 0).1] (aZ<|C.getD t 0):=by rw[aV];exact nL _ S S
     have ab8: -9223372036854775808<=C.getD (ad<|(t:Z)) 0/\C.getD (ad<|(t:Z)) 0<=9223372036854775807:=by rw[aV];omega
     have hcB:aw 1 (C.getD t 0):=aw.one S;have anW:=tb ((p:Z)^(b+1)) (C.getD t 0) (F.sm S)<|hcB.sm S;refine e J<|L<|z J (λh=>?_)<|λh=>?_
     .have AN:t<C.length:=by have h:(t:Z)<(C.length:Z):=az h;omega
      have anX:af j 103 [.a (av .z<|Y (gP p a l r b i C t i) (ad<|(t:Z)) 0),aZ<|(p:Z)^(b+1)*C.getD t 0] (aZ<|Y (cM p a l r b i) t 0+(p:Z)^(b+1)*C.getD t 0):=by rw[aV,IL,ye _ _ _ _ _ S,M S];exact zn _ _ ((hFi t).sm S)<|(F.mul hcB).sm S
      have mX:G (gP p a l r b i C t i)=G (l i):=by rw[IL,tN,TG]
      have hb:(0:Z)<=(i:Z)/\(i:Z)<(r:Z):=⟨S,S⟩;refine ai<|L<|q<|e J<|rb<|rc J J hof (rc J J anW<|o J ?_) (hp:=TE);refine bs<|iZ J J hb<|mz a6 (c:= .X<|1+i) J J (EI f) J<|iZ J J hb<|mz a6 (c:= .X<|1+i) J J (EI f) J<|rk 1 J J ?_;refine pM a6 (T:= .z) (xs:=gP p a l r b i C t i) J cw J J S (by rw[mX];omega) ?_;refine x4 a6 J cw J J J Ny ?_;refine rc J J anX ?_;refine rk 0 J J<|pM a6 (T:= .z) (xs:=gP p a l r b i C t i) J cw J J S (by rw[mX];omega) ?_;refine AI a6 (T:= .z) (id:=1+i) (xs:=gP p a l r b i C t i) J cw J J J (Y (cM p a l r b i) t 0+(p:Z)^(b+1)*C.getD t 0) J Ny ?_;refine o J ?_ (ho:=pN j8);refine aT<|rt J<|aA (t+1) AN (S:C.length-(t+1)<C.length-t)<|iP (aS J) ⟨⟨_,(eV S).trans J,cK.refl _⟩,⟨_,(eV S).trans J,cK.refl _⟩,⟨_,(eV S).trans J,cK.refl _⟩,⟨_,(eV S).trans J,cK.refl _⟩,⟨_,(eV S).trans J,cK.refl _⟩,T⟩ ((eV S).trans J) (λn B=>?_) S;by_cases bZ:n=i
      .subst bZ;refine BE.trans<|aC (λx=>some<|aH.vec 44 .z x) ?_;rw[aV,IL,IL];exact anq _ _ _ _ S
      .refine(eV S).trans<|Eq.trans (cw)<|aC (λx=>some<|aH.vec 44 .z x)<|anM p a l r b i C t (t+1) bZ
     .have AN:t=C.length:=by have h:¬(t:Z)<(C.length:Z):=aL h;omega
      subst AN;refine aN<|aT<|rt J<|aA (i+1) f (S:r-(i+1)<r-i)<|iP (aS J) (jv J) J (λn B=>?_) S;exact Eq.trans (cw)<|aC (λx=>some<|aH.vec 44 .z x)<|anN p a l r b i C hC n
    .have f:r=i:=by have h:¬(i:Z)<(r:Z):=aL h;omega
     subst f;refine aN<|ay<|rt J<|aT<|rt J<|aA (b+1) W (S:k-(b+1)<k-b)<|iP (aS J) ⟨bR J,bR J,bE J ?_,T⟩ J (λn B=>?_) S
     .exact aC (λx=>aH.box 44 0<|av .z x) (dK (p:Z)<|b+1).symm
     .exact Eq.trans (cw)<|aC (λx=>some<|aH.vec 44 .z x)<|s B
 .have W:b+1=k:=by have h:¬(b:Z)<(k:Z)-1:=aL h;omega
  subst W;exact aN<|fH te<|iP (aS J) ⟨bR J,T⟩ J (λn B=>cw) S
def se(F:V Z)(m:Z)(a:I):V Z:=(be<|G F).map λj=>if j<a then cp (Y F j 0) m else Y F j 0
def ve F m a:G (se F m a)=G F:=by simp[se]
def EK F m b{a}(c:a<G F):Y (se F m b) a 0=if a<b then cp (Y F a 0) m else Y F a 0:=EG _ _ c
def acg F m:se F m 0=F:=by
 refine sd (ve F m 0) λj a=>?_
 rw[ve]at a;rw[EK _ _ _ a,M S]
def ach F m a(d:a<G F):(se F m a).set a (cp (Y F a 0) m)=se F m (a+1):=by
 refine sd (by rw[fP,ve,ve]) λj b=>?_
 rw[fP,ve]at b;rw[ls _ _ _ _ (by rw[ve];exact d),EK _ _ _ b,EK _ _ _ b];by_cases e:a=j
 .subst e;rw[s ax,s S]
 .by_cases c:j<a
  .rw[M S,s c,s S]
  .rw[M S,M c,M S]
def aci F m:se F m (G F)=F.map (cp · m):=by
 refine lq (by rw[ve,cL]) λj a b=>?_
 rw[ve]at a;have h:=EK F m (G F) a;rw[s a,aF,bD (by rw[ve];exact a),aF,bD a]at h;rw[og];exact h
def gQ(F:I->V Z)(m:Z)(i a:I):I->V Z:=λq=>if q<i then(F q).map (cp · m)else if q=i then se (F i) m a else F q
def anY(F:I->V Z) m i a:gQ F m i 0 a=if a<i then(F a).map (cp · m)else F a:=by
 unfold gQ;split
 .rfl
 .split
  .rename_i e;subst e;exact acg _ _
  .rfl
def IM(F:I->V Z) m i a:gQ F m i a i=se (F i) m a:=by unfold gQ;rw[M S,s J]
def anZ(F:I->V Z) m i c d{a}(b:a≠i):gQ F m i c a=gQ F m i d a:=by unfold gQ;rw[M b,M b]
def an0(F:I->V Z) m i a:gQ F m i (G<|F i) a=if a<i+1 then(F a).map (cp · m)else F a:=by
 by_cases e:a=i
 .subst e;rw[IM,s S,aci]
 .unfold gQ;rw[M e];by_cases b:a<i
  .rw[s b,s S]
  .rw[M b,M S]
def an1{a:TT}{b}{c d}{E}{T}{xs}{f}(g:w d b.mem=some (.vec E T xs))(i:w c a=some f){k:TypeId}(l:f.kind= .sl k:=by rfl):C0 a b c d=some (D<|G xs):=by simp only[C0,g,i,l]
def acj{p}{l:I->V Z}{r}{a}{k mc}(n:o0 p a l r k mc):af j 97 [N .z a,N TP<|ji l r p,cU p,D k] (.c<|.S (.sl .z)<|tM p a l r k):=by
 refine aD Tryz.func97 ?_;refine anD n.H a k _ (anO n _ ?_ J) J;have hr:=n.H.Np;have y:=n.k1;have O:=n.ab9;have C:=λi B=>n.IK (k-1) i B
 have K:=λi B=>n.FB (k-1) i B
 have Q:=n.qB k;have R:=n.Nx k;have hL:tM p a l r k=(be r).map λd=>(cM p a l r (k-1) d).map (cp · ((p:Z)^k)):=rfl
 rw[hL];generalize cM p a l r (k-1)=F at*;generalize (p:Z)^k=m at*;refine L<|rb<|iZ J J T<|o J<|q<|aK (α:=I) (λi=>⟨[(9,.c<|.L 1002000 0 r<|some r),(19,.c<|.P 6001000 0),(201,D r),(202,D i)],[(6001000,.box 44 0<|av .z m)]++eU 1002000 57 r 44 .z (λd=>if d<i then(F d).map (cp · m)else F d),11,[]⟩) (λi=>i<=r) (λi=>r-i) 0 (aW _) ?_ ?_
 .exact iP (aS J) ⟨bR J,T⟩ J (λd x=>cw) S
 intro i B;refine e J<|L<|z J (λh=>?_)<|λh=>?_
 .have b:i<r:=by have h:(i:Z)<(r:Z):=az h;omega
  have hli:=n.H.EF i b;have hFi:=C i b;have U:(0:Z)<=(i:Z)/\(i:Z)<(r:Z):=⟨S,S⟩;refine ai<|L<|q<|e J<|rb<|iZ J J U<|mz a6 (c:= .X<|1+i) J J (EI b) J ?_;refine akV a6 (v:=D<|G<|F i) J ?_<|o J ?_
  .exact an1 (E:=44) (T:= .z) (xs:=F i) (Eq.trans (cw)<|aC (λf=>some<|aH.vec 44 .z f)<|M S) J
  refine q<|aK (α:=I) (λt=>⟨[(9,.c<|.L 1002000 0 r<|some r),(19,.c<|.P 6001000 0),(35,D i),(201,D r),(202,D i),(209,D<|G<|F i),(210,D t)],[(6001000,.box 44 0<|av .z m)]++eU 1002000 57 r 44 .z (gQ F m i t),14,[]⟩) (λt=>t<=G (F i)) (λt=>G (F i)-t) 0 (aW _) ?_ ?_
  .refine iP (aS J) ⟨bR J,T⟩ J (λd x=>?_) S;exact Eq.trans (cw)<|aC (λf=>some<|aH.vec 44 .z f) (anY F m i d).symm
  intro t ht;refine e J<|L<|z J (λh=>?_)<|λh=>?_
  .have g:t<G (F i):=by have h:(t:Z)<(G (F i):Z):=az h;omega
   have mX:G (gQ F m i t i)=G (F i):=by rw[IM,ve]
   have W:af j 164 [.a (av .z<|Y (gQ F m i t i) (ad<|(t:Z)) 0),aZ m] (aZ<|cp (Y (F i) t 0) m):=by rw[aV,IM,EK _ _ _ g,M S];exact abV _ m (k+1) S R ((K i b t).sm S) Q
   refine ai<|L<|q<|e J<|bs ?_;refine iZ J J U<|mz a6 (c:= .X<|1+i) J J (EI b) J<|iZ J J U<|mz a6 (c:= .X<|1+i) J J (EI b) J<|rk 1 J J ?_;refine pM a6 (T:= .z) (xs:=gQ F m i t i) J cw J J S (by rw[mX];omega) ?_;refine x4 a6 J cw J J J Ny ?_;refine rc J J W ?_;refine rk 0 J J<|pM a6 (T:= .z) (xs:=gQ F m i t i) J cw J J S (by rw[mX];omega) ?_;refine AI a6 (T:= .z) (id:=1+i) (xs:=gQ F m i t i) J cw J J J (cp (Y (F i) t 0) m) J Ny ?_;refine o J ?_ (ho:=pN j8);refine aT<|rt J<|aA (t+1) g (S:G (F i)-(t+1)<G (F i)-t)<|iP (aS J) ⟨⟨_,(eV S).trans J,cK.refl _⟩,T⟩ ((eV S).trans J) (λd x=>?_) S;by_cases u:d=i
   .subst u;refine BE.trans<|aC (λf=>some<|aH.vec 44 .z f) ?_;rw[aV,IM,IM];exact ach _ _ _ g
   .refine(eV S).trans<|Eq.trans (cw)<|aC (λf=>some<|aH.vec 44 .z f)<|anZ F m i t (t+1) u
  .have g:t=G (F i):=by have h:¬(t:Z)<(G (F i):Z):=aL h;omega
   subst g;refine aN<|aT<|rt J<|aA (i+1) b (S:r-(i+1)<r-i)<|iP (aS J) ⟨bR J,T⟩ J (λd x=>?_) S;exact Eq.trans (cw)<|aC (λf=>some<|aH.vec 44 .z f)<|an0 F m i d
 .have b:r=i:=by have h:¬(i:Z)<(r:Z):=aL h;omega
  subst b;refine aN<|ay ?_;refine e J<|bc<|ak3 a6 (E:=44) J J (λd x=>?_) S;exact Eq.trans (cw)<|aC (λf=>some<|aH.vec 44 .z f)<|s x
def kA(p:Z)(l:I->V Z):I->V Z
 |0=>[1]
 |i+1=>bT (kA p l i) (l i) p
def oz(l:I->V Z)(p:Z)(r i:I):V (V Z×Z):=(be i).map (λj=>(l j,p))++bh (r-i) ([],0)
def ack(l:I->V Z) p r i(a:i<=r):G (oz l p r i)=r:=by unfold oz;simp;omega
def an2(l:I->V Z) p r i(a:i<r):(oz l p r i).set i (l i,p)=oz l p r (i+1):=by unfold oz;rw[oR _ _ ax,(S:r-i=(r-(i+1))+1),uc,nE,fe];simp
def an3(l:I->V Z) p r i:Y (oz l p r<|i+1) i ([],0)=(l i,p):=by unfold oz;rw[aF,yN ax,gj,jW S];rfl
def an4(l:I->V Z) p r:oz l p r r=ji l r p:=by unfold oz ji;rw[gx,uz,iW]
structure LiB(p:I)(a:V Z)(Ls:V (V Z))(k w:I):Prop where
 A:o0 p a (λi=>Ls.getD i []) Ls.length k w
 pm:p<=2147483647
 TL:k<=200
 a0:a≠[]
 a1:a.getD (a.length-1) 0=1
 l1:∀i,i<Ls.length->(Ls.getD i []).getD ((Ls.getD i []).length-1) 0=1
 Nz:∀i,i<=Ls.length->aY p (kA p (λi=>Ls.getD i []) i)/\kA p (λi=>Ls.getD i []) i≠[]/\(kA p (λi=>Ls.getD i []) i).length<=400
 TM:∀i,i<Ls.length->(c8 p (kA p (λi=>Ls.getD i []) i)<|Ls.getD i []).length=1
 pra:kA p (λi=>Ls.getD i []) Ls.length=au (md p a)
structure LiC(p:I)(a:V Z)(Ls:V (V Z))(k w:I):Prop where
 H:pX p (λi=>Ls.getD i []) Ls.length
 k1:1<=k
 la:a.length<=400
 Nv:w<=1000
 ha:∀i,aw w (a.getD i 0)
 pm:p<=2147483647
 TL:k<=200
 a0:a≠[]
 a1:a.getD (a.length-1) 0=1
 l1:∀i,i<Ls.length->(Ls.getD i []).getD ((Ls.getD i []).length-1) 0=1
 Nz:∀i,i<=Ls.length->aY p (kA p (λi=>Ls.getD i []) i)/\kA p (λi=>Ls.getD i []) i≠[]/\(kA p (λi=>Ls.getD i []) i).length<=400
 TM:∀i,i<Ls.length->(c8 p (kA p (λi=>Ls.getD i []) i)<|Ls.getD i []).length=1
def TN{p}{a}{b}{k mc}(B:LiC p a b k mc){r}(hm:r.ar=[])(hL:kA p (λi=>b.getD i []) b.length=au (md p a)->o0 p a (λi=>b.getD i []) b.length k mc/\r= .t [(ah,[.S (.sl .z) (tM p a (λi=>b.getD i []) b.length k)]),(ah,[.I .i64 0])])(hN:kA p (λi=>b.getD i []) b.length≠au (md p a)->r= .t [(ah,[.V (.slice none 0 0)]),(ah,[.I .i64 1])]):af j 29 [N .z a,N (.sl u) b,cU p,D k] r:=by
 refine yT Tryz.func29 J J J J hm A ?_;have l:=B;have hr:=l.H.Np;have R:=l.H.hp;have h2:=R.1;have U:=B.pm;have m:=l.H.tO;have J5:=l.k1;have oe:=B.TL;have GW:=l.la;have hw:=l.Nv;have C:∀i,Sm (Y a i 0):=λi=>(l.ha i).sm S
 have W:=anm a S B.a0 C B.a1;refine e J<|L<|t<|rc J J (Hh p R U)<|rg 17 J J (λh=>bS)<|λ_=>rg 21 J J (λv=>?_)<|λv=>?_
 .exfalso;have v:(k:Z)<1:=az v;omega
 refine rg 25 J J (λg=>?_)<|λg=>?_
 .exfalso;have g:(k:Z)>200:=az g;omega
 refine eI J J J J J W<|o J ?_;refine z J (λh=>bS)<|λ_=>ai ?_;refine t<|rm TP b.length J J J J J J ab1 J ?_ ?_<|o J ?_
 .show _*32<=_;omega
 .show _*2<=_;omega
 refine t<|rl u [1] J J (o J ?_);refine L<|e J<|q<|aK (α:=I) (λi=>⟨[(0,N .z a),(1,N (.sl u) b),(2,cU p),(3,D k),(10,.c<|.X 2002000),(11,.c<|.P 3003000 0),(36,N (.sl u) b),(37,D b.length),(38,D i)],[(2002000,.vec 101 TP<|oz (λi=>b.getD i []) p b.length i),(3003000,.box 101 0 [.S u (kA p (λi=>b.getD i []) i),.I .u64 p])],5,[]⟩) (λi=>i<=b.length) (λi=>b.length-i) 0 (aW _) (wk (aS J) ⟨bE J J,bR J,T⟩) ?_;intro i hi;refine e J<|L<|z J (λh=>?_)<|λh=>?_
 .have d:i<b.length:=by have h:(i:Z)<(b.length:Z):=az h;omega
  have x:aY p (b.getD i []):=l.H.c i d;have E:2<=G (b.getD i []):=l.H.l2 i d;have s:G (b.getD i [])<=100:=l.H.EF i d;have y:=B.l1 i d;let ⟨q1,q2,q3⟩:=B.Nz i hi;have hg:=B.TM i d;have O:Y (oz (λi=>b.getD i []) (p:Z) b.length<|i+1) i ([],0)=(b.getD i [],(p:Z)):=an3 (λi=>b.getD i []) (p:Z) b.length i;have hlI:=ack (λi=>b.getD i []) (p:Z) b.length i hi;have avq:=ack (λi=>b.getD i []) (p:Z) b.length (i+1) d;have n:(oz (λi=>b.getD i []) (p:Z) b.length i).set i (b.getD i [],(p:Z))=oz (λi=>b.getD i []) (p:Z) b.length (i+1):=an2 (λi=>b.getD i []) (p:Z) b.length i d;have F:kA p (λi=>b.getD i []) (i+1)=bT (kA p (λi=>b.getD i []) i) (b.getD i []) p:=rfl;have kj:b.getD i []≠[]:=λf=>by rw[f]at E;simp at E
  let ⟨M,M0,M1,Ap⟩:=ann (b.getD i []) p S kj x.1;have TO:=L0 p R m (kA p (λi=>b.getD i []) i) (b.getD i []) S S q1 x q2;have L4:=tf (c8 p (kA p (λi=>b.getD i []) i)<|b.getD i []) p S;have TH:=Hc (kA p (λi=>b.getD i []) i) (b.getD i []) p S S S S q1.1 x.1;have hn:(b.getD (ad<|(i:Z))<|ET.cJ<|.sl u)=b.getD i []:=aC (λg6=>b.getD g6 [])<|aV i;refine ai<|L<|q<|e J ?_;rw[hn];generalize hE:b.getD i []=f at*;refine L<|t<|rg 46 J J (λv=>?_)<|λv=>?_
  .exfalso;have v:(G f:Z)<2:=az v;omega
  have hle:ad ((G f:Z)-1)=G f-1:=S;refine rg 55 J J (λg=>?_)<|λg=>?_
  .exfalso;have g:(Y f (ad<|(G f:Z)-1) 0 !=1)=ae:=g;exact nN g (by rw[hle];exact y)
  refine eI J J J J J Ap<|o J ?_;refine z J (λh=>?_)<|λh=>ai ?_
  .exfalso;have h:M>=(p:Z):=az h;omega
  refine t<|jx (f,(p:Z)) J J J J J ML<|o J ?_;have K:(Y ((oz (λi=>b.getD i []) (p:Z) b.length i).set (ad<|(i:Z)) (f,(p:Z))) (ad<|(i:Z)) ([],0))=(f,(p:Z)):=by rw[aV,n];exact O
  have hlen:G ((oz (λi=>b.getD i []) (p:Z) b.length i).set (ad<|(i:Z)) (f,(p:Z)))=b.length:=by rw[fP];exact hlI
  refine L<|t<|rc J J (vs:=[aP (kA p (λi=>b.getD i []) i) p,.a<|av TP<|Y ((oz (λi=>b.getD i []) (p:Z) b.length i).set (ad<|(i:Z)) (f,(p:Z))) (ad<|(i:Z)) ([],0)]) (by rw[K];exact TO)<|rc J J L4<|o J ?_;refine z J (λh=>?_)<|λh=>ai ?_
  .exfalso;have h:(G (c8 p (kA p (λi=>b.getD i []) i) f):Z)-1>0:=az h;omega
  refine bs<|rc J J (vs:=[aP (kA p (λi=>b.getD i []) i) p,.a<|av TP<|Y ((oz (λi=>b.getD i []) (p:Z) b.length i).set (ad<|(i:Z)) (f,(p:Z))) (ad<|(i:Z)) ([],0)]) (by rw[K];exact TH)<|o J ?_;refine aT<|rt J<|aA (i+1) d (S:b.length-(i+1)<b.length-i)<|wk (aS J) ⟨bE J ?_,bE J ?_,T⟩
  .exact aC (aH.vec 101 TP) (by rw[aV];exact n)
  .rw[F];rfl
 .have d:i=b.length:=by have h:¬(i:Z)<(b.length:Z):=aL h;omega
  subst d;let ⟨q1,q2,q3⟩:=B.Nz b.length<|a8 _;have oP:=S4 a p S h2 m C;have heq:=ano (kA p (λi=>b.getD i []) b.length) (au<|md p a) S;refine aN<|ay ?_;refine L<|t<|rc J J oP<|rc J J heq<|o J ?_;refine z J (λh=>?_)<|λh=>ai ?_
  .have h:kA p (λi=>b.getD i []) b.length≠au (md p a):=λf=>by rw[f]at h;simp at h
   rw[hN h];exact e J<|bc<|bt<|atR J
  have h:kA p (λi=>b.getD i []) b.length=au (md p a):=dQ λf=>by rw[iX f]at h;cases h
  rw[(hL h).2];refine cD 2002000 J J J ?_;have Q:=acj (hL h).1;rw[<-an4]at Q;refine aO J J Q J<|bU J
def an7{p}{a}{b}{k c}(B:LiB p a b k c):af j 29 [N .z a,N (.sl u) b,cU p,D k] (.t [(ah,[.S (.sl .z) (tM p a (λi=>b.getD i []) b.length k)]),(ah,[.I .i64 0])]):=by exact TN ⟨B.A.H,B.A.k1,B.A.la,B.A.Nv,B.A.ha,B.pm,B.TL,B.a0,B.a1,B.l1,B.Nz,B.TM⟩ J (λ_=>⟨B.A,J⟩) λh=>absurd B.pra h
def TQ a b i:Y (mu a b) i 0=if i<G a+G b-1 then conv (λi=>Y a i 0) (λi=>Y b i 0) i else 0:=by
 unfold mu;rw[aF,gj];split
 .rename_i h;rw[jW h];rfl
 .rename_i h;rw[lG bP];rfl
def IN a b:G (mu a b)=G a+G b-1:=by simp[mu]
def aco a b(c:a≠[])(d:b≠[]):h (mu a b)=h a*h b:=PS.ext λi=>by
 have f:=bX.2 c;have g:=bX.2 d;rw[cc,TQ];show _=conv (λi=>Y a i 0) (λi=>Y b i 0) i
 split
 .rfl
 .symm;refine Q6 _ _ i (i+1) λj k=>?_
  by_cases e:j<G a
  .show Y a j 0*Y b (i-j) 0=0;rw[cF b S,dI]
  .show Y a j 0*Y b (i-j) 0=0;rw[cF a S,ko]
def an8 a b(c:a≠[])(d:b≠[]):Y (mu a b) (G (mu a b)-1) 0=Y a (G a-1) 0*Y b (G b-1) 0:=by have g:=bX.2 c;have k:=bX.2 d;rw[IN,TQ,s S,(S:G a+G b-1-1=(G a-1)+(G b-1))];exact ajD (λi f=>cF a S)<|λi f=>cF b S
def acp a b c v(d:∀i,aw c (Y a i 0))(f:∀i,aw v (Y b i 0))(g:G a<=1000)(k:G b<=1000) i:aw (c+v+1) (Y (mu a b) i 0):=by
 rw[TQ];split
 .exact aa6 a b c v d f i (i+1) S
 .exact aw.zero _
def aG(a:V Z):Prop:=a≠[]/\Y a (G a-1) 0=1
def aG.can{a}(b:aG a):can a:= .inr (by rw[b.2];decide)
def aG.trim{a}(b:aG a):au a=a:=uQ b.can
def aG.acq{a b}(c:aG a)(d:aG b):aG (mu a b):=by have g:=bX.2 c.1;have i:=bX.2 d.1;refine⟨λe=>?_,by rw[an8 a b c.1 d.1,c.2,d.2];rfl⟩;have f:=IN a b;rw[e]at f;simp at f;omega
def aG.md{p}(c:1<p){a}(b:aG a):aG (md p a):=by refine⟨λe=>b.1 (et<|by rw[<-oU p a,e];rfl),?_⟩;rw[oU,Bn,b.2];exact gT A c
namespace Rx
def zx(a:V Z):Rx:=lx (a.map λx:Z=>(x:Rat))
def jk a i:zx a i=((Y a i 0:Z):Rat):=by show(a.map λx:Z=>(x:Rat)).getD i 0=_;rw[aF,gj,aF];cases a[i]? <;>rfl
def B0 a:ef (zx a):=ef.of λi=>⟨_,jk a i⟩
def NA a:nu (zx a)=h a:=PS.ext λi=>by show(zx a i).num=_;rw[jk];rfl
def an9{a}(b:can a):bY (a.map λx:Z=>(x:Rat)):=by
 rcases b with b|b
 .subst b;exact .inl J
 .right;rw[cL];intro e;have c:=jk a<|G a-1;rw[show zx a (G a-1)=0 from e]at c;exact b<|TS.1 c.symm
def jZ{a}(b:can a):sz (zx a)=G a:=by rw[zx,dH<|an9 b,cL]
def aG.can{a}(b:aG a):can a:= .inr (by rw[b.2];decide)
def mZ{a}(b:aG a):Mo (zx a):=by rw[Mo,jZ<|aG.can b,jk,b.2];rfl
def acr{a b}(f:can a)(g:can b)(c:zx a=zx b):a=b:=by
 have k:∀i,Y a i 0=Y b i 0:=λi=>by
  have e:zx a i=zx b i:=by rw[c]
  rw[jk,jk]at e;exact yb.1 e
 refine sd ?_ λj _=>k j
 have d:=jZ f;rw[c,jZ g]at d;exact d.symm
def NB{c}(d:ef c):∃a,can a/\zx a=c:=by
 obtain⟨a,b,rfl⟩:=kc c;have e:∀i,(a.map Rat.num).getD i 0=(Y a i 0).num:=λi=>by rw[aF,gj,aF];cases a[i]? <;>rfl
 refine⟨a.map Rat.num,?_,ext λi=>?_⟩
 .rcases b with b|b
  .subst b;exact .inl J
  .right;rw[cL,e];exact λf=>b<|Rat.num_eq_zero.1 f
 .rw[jk,e];exact(d i).symm
def NC{a}(d:can a)(b:Mo (zx a)):aG a:=by have c:=b;rw[Mo,jZ d,jk]at c;refine⟨λe=>?_,yb.1 (c.trans Rat.intCast_one.symm)⟩;subst e;exact b.ne<|show zx []=0 from tH
def ND{a b c}(d:zx a*zx b=zx c):h a*h b=h c:=by rw[<-NA,<-NA,<-Nh (B0 a) (B0 b),d,NA]
def yh(a:PS){n:I}(b:∀i,n<=i->a i=0):Rx:=⟨λi=>(a i:Rat),n,λi c=>by rw[b i c];rfl⟩
def NF a{n}(b:∀i,n<=i->a i=0):ef (yh a b):=λ_=>rfl
def NG a{n}(b:∀i,n<=i->a i=0):nu (yh a b)=a:=rfl
def an'{a B}(b:ef a)(c:ef B)(d:nu a=nu B):a=B:=ext λi=>by rw[b.at,c.at,d]
def acs{a B}(b:ef a)(c:ef B):ef (a+B)/\nu (a+B)=nu a+nu B:=by
 have e:∀i,(a+B) i=(((nu a+nu B) i:Z):Rat):=λi=>by rw[eR,b.at,c.at,<-Rat.intCast_add];rfl
 exact⟨ef.of λi=>⟨_,e i⟩,PS.ext λi=>by show((a+B) i).num=_;rw[e];rfl⟩
def TU a:ef (bp<|zx a)/\nu (bp<|zx a)=qP (h a):=by
 have e:∀i,bp (zx a) i=((qP (h a) i:Z):Rat):=λi=>by rw[qW,jk];show _=((((i:Z)+1)*h a (i+1):Z):Rat);rw[iF];rfl
 exact⟨ef.of λi=>⟨_,e i⟩,PS.ext λi=>by show(bp (zx a) i).num=_;rw[e];rfl⟩
def aoa{l}(hn:l.Nodup)(U:∀p∈l,aX p)(hb:yc<qX l){a}{n}(hl:G a=n+2)(W:aG a)(m:Co (zx a) (bp<|zx a)){B}(h1B:1<=B)(hB:∀i,aq (Y a i 0)<=B)(f:(2*((2*n+2)*((n+1)*B)))^(2*n+1)<=yc):
  ∃p∈l,Fx.Co (Fx.fx a:Fx (p:I)) (Fx.bp<|Fx.fx a):=by
 have X:∀i,n+1<i->h a i=0:=λi b=>cF a S
 have g:∀i,n<i->qP (h a) i=0:=λi b=>by show _*h a (i+1)=0;rw[X (i+1) S,dI]
 have r:B<=(n+1)*B:=by have:=eB B (S:1<=n+1);omega
 let ⟨u,v,D,u1,v1,e,t,x⟩:=ane (B:=(n+1)*B) S X g (λi=>cQ (hB i) r) (λi=>by
  by_cases b:n<i
  .rw[g i b];exact aW _
  .show aq (((i:Z)+1)*h a (i+1))<=_;rw[qE];exact ly S<|hB _)
 have w:=mZ W
 have y:sz (zx a)=n+2:=by rw[jZ (aG.can W),hl]
 have C:D≠0:=λz=>by
  subst z;have E:yh u u1*zx a+yh v v1*bp (zx a)=0:=by have j:=(NF u u1).mul<|B0 a;have o:=(NF v v1).mul (TU a).1;refine an' (acs j o).1 (λ_=>rfl) ?_;rw[(acs j o).2,Nh (NF u u1)<|B0 a,Nh (NF v v1) (TU a).1,NG,NG,NA,(TU a).2,e,PS.l3];rfl
  have q:zx a∣yh v v1*bp (zx a):=by refine uR ?_<|dvd_mul_left (zx a)<|yh u u1;rw[E];exact dvd_zero _
  rw[mul_comm]at q;have L:=m.dvd q;have s:yh v v1=0:=rY L (by have:=u6 (A:=yh v v1) (n:=n+1) (λi b=>by show((v i:Z):Rat)=0;rw[v1 i b];rfl);omega);rw[s,zero_mul,add_zero]at E;have M:yh u u1=0:=dQ λN=>nQ N w.ne E
  refine x J ?_ ?_
  .rw[<-NG v v1,s];rfl
  .rw[<-NG u u1,M];rfl
 let ⟨p,k,F⟩:=ani hn (λp k=>(U p k).hp) hb C<|cQ t f
 refine⟨p,k,?_⟩
 have H:=U p k
 have P:aU p u:=⟨n,λi b=>by rw[u1 i b,dj]⟩
 have Q:aU p v:=⟨n+1,λi b=>by rw[v1 i b,dj]⟩
 let ⟨d,O⟩:=Fx.ov H (c:=D)<|λT=>F<|Bk T
 refine⟨Fx.K d*Fx.mk u P,Fx.K d*Fx.mk v Q,?_⟩
 have R:(Fx.mk u P*Fx.fx a+Fx.mk v Q*Fx.bp (Fx.fx a):Fx p)=Fx.K D:=Fx.mk_congr e ((P.mul<|aU.ps p a).add<|Q.mul<|x0<|aU.ps p a)<|aU.K p D
 rw[Fx.mul_assoc,Fx.mul_assoc,<-Fx.mul_add,R]
 exact O
end Rx
def fU.mul{p}{a B C}(i:fU p a C)(k:fU p B C)(l:aU p a):fU p (a*B) C:=by
 let ⟨U,V,g,m,e⟩:=i;let ⟨b,c,d,f,n⟩:=k;refine⟨U*b,U*a*c+V,g.mul d,((g.mul l).mul f).add m,?_⟩;have r:U*b*(a*B)+(U*a*c+V)*C=U*a*(b*B+c*C)+V*C:=by simp only[PS.mul_add,PS.add_mul];ac_rfl
 rw[r];exact(((n.tj<|U*a).ou<|V*C).trans<|Cg.of_eq<|by rw[PS.mul_one]).trans e
def fU.one{p}a:fU p 1 a:=⟨1,0,aU.one p,aU.zero p,Cg.of_eq<|by rw[PS.mul_one,PS.zero_mul,PS.add_zero]⟩
def TV{p:I}(f:cE p)(c:p<=2147483648){l:I->V Z}{r i:I}(k:i<r)(m:∀a,a<r->aY p (l a))(d:l i≠[])(b:∀a,a<r->a≠i->fU p (h<|l a) (h<|l i)):∀a,a<=r->fU p (h<|dM p l i a) (h<|l i)
 |0,_=>by rw[dM,zt];exact fU.one _
 |a+1,x=>by
  have n:=TV f c k m d b a S;have g:(0:Z)<(p:Z):=by have:=f.1;omega
  rw[dM];split
  .exact n
  .rename_i e;let ⟨d1,d2,d3,d4,d5,d6⟩:=iO f c (je g (dM p l i a)<|l a).1 (m i k) d;have v:=(n.mul (b a S e)<|aU.ps _ _).cg (rS (dM p l i a) (l a) p).symm<|Cg.refl _ _;exact(v.step (aU.ps _ _) d1).symm
def fr(F:I->PS):I->PS
 |0=>1
 |a+1=>fr F a*F a
def sS(F C:I->PS):I->PS
 |0=>0
 |a+1=>sS F C a*F a+fr F a*C a
def tQ(F:I->PS)(i:I):I->PS
 |0=>1
 |a+1=>if a=i then tQ F i a else tQ F i a*F a
def IP{m:Z}{F a:I->PS}:∀r,(∀i,i<r->Cg m (F i) (a i))->Cg m (fr F r) (fr a r)
 |0,_=>Cg.refl _ _
 |r+1,b=>(IP r λi c=>b i S).mul<|b r S
def acu{m:Z}{F b C:I->PS}:∀r,(∀i,i<r->Cg m (F i) (b i))->Cg m (sS F C r) (sS b C r)
 |0,_=>Cg.refl _ _
 |r+1,a=>((acu r λi c=>a i S).mul<|a r S).add<|(IP r λi c=>a i S).oT _
def IQ{p:Z}{F:I->PS}:∀r,(∀i,i<r->aU p (F i))->aU p (fr F r)
 |0,_=>aU.one p
 |r+1,a=>(IQ r λi b=>a i S).mul<|a r S
def acv{p:Z}{F C:I->PS}:∀r,(∀i,i<r->aU p (F i)/\aU p (C i))->aU p (sS F C r)
 |0,_=>aU.zero p
 |r+1,a=>((acv r λi b=>a i S).mul (a r S).1).add<|(IQ r λi b=>(a i S).1).mul (a r S).2
def TW{p:Z}{F:I->PS}{i:I}:∀r,(∀b,b<r->aU p (F b))->aU p (tQ F i r)
 |0,_=>aU.one p
 |r+1,a=>by
  rw[tQ];split
  .exact TW r λi c=>a i S
  .exact(TW r λi c=>a i S).mul<|a r S
def acw{F:I->PS}{i:I}:∀a,a<=i->tQ F i a=fr F a
 |0,_=>rfl
 |a+1,b=>by rw[tQ,M S,fr,acw a S]
def Cm(p:Z)(B a b:PS):Prop:=∃W,aU p W/\Cg p a (b+W*B)
def Cm.of{p}{B a b}(c:Cg p a b):Cm p B a b:=⟨0,aU.zero p,by rw[PS.zero_mul,PS.add_zero];exact c⟩
def Cm.trans{p}{B b c a}(d:Cm p B b c)(k:Cm p B c a):Cm p B b a:=by let ⟨W,g,e⟩:=d;let ⟨V,i,f⟩:=k;refine⟨V+W,i.add g,e.trans ?_⟩;rw[PS.add_mul,<-PS.add_assoc];exact f.ou _
def Cm.symm{p}{B a b}(c:Cm p B a b):Cm p B b a:=by let ⟨W,d,e⟩:=c;refine⟨-W,d.neg,?_⟩;refine Cg.trans (Cg.of_eq ?_)<|e.symm.ou _;rw[PS.neg_mul,PS.add_assoc,PS.add_neg,PS.add_zero]
def Cm.mul{p}{B c a d b}(l:aU p B)(m:aU p a)(n:aU p b)(r:Cm p B c a)(k:Cm p B d b):Cm p B (c*d) (a*b):=by let ⟨W,g,e⟩:=r;let ⟨V,i,f⟩:=k;refine⟨a*V+W*b+W*V*B,((m.mul i).add<|g.mul n).add<|(g.mul i).mul l,(e.mul f).trans<|Cg.of_eq ?_⟩;simp only[PS.add_mul,PS.mul_add];ac_rfl
def acx{p:Z}{F:I->PS}{i:I}:∀a,i<a->(∀b,b<a->aU p (F b))->∃c,aU p c/\fr F a=c*F i
 |0,f,_=>by omega
 |a+1,f,d=>by
  by_cases g:i=a
  .subst g;exact⟨fr F i,IQ i λb k=>d b S,J⟩
  .let ⟨c,l,m⟩:=acx (F:=F) (i:=i) a S λb k=>d b S
   exact⟨c*F a,l.mul<|d a S,by rw[fr,m];ac_rfl⟩
def acy{p:Z}{F C:I->PS}{i:I}:∀a,i<a->(∀b,b<a->aU p (F b)/\aU p (C b))->Cm p (F i) (sS F C a) (tQ F i a*C i)
 |0,f,_=>by omega
 |a+1,f,c=>by
  by_cases g:i=a
  .subst g;refine⟨sS F C i,acv i λb d=>c b S,Cg.of_eq ?_⟩;rw[sS,tQ,s J,acw i<|a8 _];ac_rfl
  .let ⟨W,k,l⟩:=acy (C:=C) a (S:i<a) λb d=>c b S
   let ⟨V,m,n⟩:=acx (p:=p) a (S:i<a) λb d=>(c b S).1
   refine⟨W*F a+V*C a,(k.mul (c a S).1).add<|m.mul (c a S).2,?_⟩;rw[sS,tQ,M S,n];refine((l.oT<|F a).ou _).trans<|Cg.of_eq ?_;simp only[PS.add_mul];ac_rfl
def crt{p:Z}{F:I->PS}{c:PS}{r:I}(l:∀i,i<r->aU p (F i))(g:∀i,i<r->∃W,aU p W/\Cg p c (W*F i))(b:∀i,i<r->fU p (fr F i) (F i))(k:aU p c):∀a,a<=r->∃W,aU p W/\Cg p c (W*fr F a)
 |0,_=>⟨c,k,by rw[fr,PS.mul_one];exact Cg.refl _ _⟩
 |a+1,H=>by
  let ⟨W,m,n⟩:=crt l g b k a S;let ⟨V,v,x⟩:=g a S;let ⟨U,d,B,f,C⟩:=b a S;refine⟨U*V+d*W,(B.mul v).add<|f.mul m,?_⟩;have E:Cg p c ((U*fr F a+d*F a)*c):=by have:=(C.oT c).symm;rwa[PS.one_mul]at this
  refine E.trans ?_;rw[PS.add_mul,fr];refine((x.tj<|U*fr F a).add<|n.tj<|d*F a).trans<|Cg.of_eq ?_;rw[PS.add_mul];ac_rfl
def nY(d:I->I):I->I
 |0=>0
 |a+1=>nY d a+d a
def NH{p:Z}{F:I->PS}{d:I->I}:∀r,(∀i,i<r->Dl p (d i+1) (F i))->Dl p (nY d r+1) (fr F r)
 |0,_=>LK p
 |r+1,a=>((NH r λi b=>a i S).mul<|a r S)
def TX{p:Z}{F:I->PS}{d:I->I}:∀r,(∀i,i<r->Dl p (d i+1) (F i)/\F i (d i)%p=1%p)->fr F r (nY d r)%p=1%p
 |0,_=>rfl
 |r+1,a=>by rw[fr,nY,(NH r λi b=>(a i S).1).top (a r S).1,kJ,TX r λi b=>a i S,(a r S).2,<-kJ,lA]
def acA{p:Z}{F C:I->PS}{d:I->I}:∀r,(∀i,i<r->Dl p (d i+1) (F i)/\Dl p (d i) (C i))->Dl p (nY d r) (sS F C r)
 |0,_=>Bl p 0
 |r+1,a=>by refine Dl.add ?_<|(NH r λi b=>(a i S).1).mul (a r S).2;have:=(a r S).1.mul<|acA r λi b=>a i S;rw[PS.mul_comm,AL]at this;exact this
def aob{p}(g:cE p){F:I->PS}{d:I->I}{b}{r}(c:∀i,i<r->Dl p (d i+1) (F i)/\F i (d i)%(p:Z)=1%(p:Z))(l:∀i,i<r->∃W,aU p W/\Cg p b (W*F i))(a:∀i,i<r->fU p (fr F i) (F i))(k:Dl p (nY d r) b):Cg p b 0:=by
 have B:=g.1;let ⟨W,⟨n,m⟩,e⟩:=crt (λi f=>⟨_,(c i f).1⟩) l a ⟨_,k⟩ r<|a8 _;have v:fr F r (nY d r)%(p:Z)≠0:=by rw[TX r c,gT A S];decide
 have x:=Y6 g m (NH r λi f=>(c i f).1) v<|k.cg e;refine e.trans<|(x.oT _).trans<|Cg.of_eq<|PS.zero_mul _
def acB{a p:Z}(b:p∣a){F C:I->PS}:∀r,Cg (a*p) (fr (λi=>F i+PS.K a*C i) r) (fr F r+PS.K a*sS F C r)
 |0=>by rw[fr,sS,PS.mul_zero,PS.add_zero];exact Cg.refl _ _
 |r+1=>by
  have d:=acB b (F:=F) (C:=C) r;let ⟨t,ht⟩:=b;rw[fr];refine(d.oT _).trans ⟨PS.K t*(sS F C r*C r),?_⟩;have c:PS.K a*PS.K a=PS.K (a*p)*PS.K t:=by rw[<-PS.rQ,<-PS.rQ,jb,<-ht]
  have f:(fr F r+PS.K a*sS F C r)*(F r+PS.K a*C r)=fr F r*F r+PS.K a*(sS F C r*F r+fr F r*C r)+PS.K a*PS.K a*(sS F C r*C r):=by simp only[PS.add_mul,PS.mul_add];ac_rfl
  rw[f,c,fr,sS,PS.mul_assoc<|PS.K<|a*p]
def acC F c a(b:G c<=G F):h (tL F c a)=h F+PS.K a*h c:=PS.ext λi=>by
 rw[PS.eR,PS.eS,cc,cc,cc];by_cases e:i<G F
 .rw[tL,ye _ _ _ _ _ e,s e]
 .rw[cF _ (by rw[tL,tN];omega),cF F S,cF c S,dI,mT]
def acD(F:I->V Z)(m:Z):∀a,Cg m (h<|fB F m a) (fr (λi=>h<|F i) a)
 |0=>by rw[fB,zt];exact Cg.refl _ _
 |a+1=>(No (fB F m a) (F a) m).trans<|(acD F m a).oT _
def IS(F:I->V Z)(m:Z):∀a,(∀i,i<a->1<=G (F i))->(fB F m a).length=nY (λi=>G (F i)-1) a+1
 |0,_=>rfl
 |a+1,b=>by have c:=b a<|di a;rw[fB,zT,IS F m a λi d=>b i S,nY];omega
def acE{d a:I->I}:∀r,(∀i,i<r->d i=a i)->nY d r=nY a r
 |0,_=>rfl
 |r+1,b=>by rw[nY,nY,acE r λi c=>b i S,b r S]
structure qY(p:I)(a:V Z)(l:I->V Z)(r:I):Prop where
 H:pX p l r
 mn:∀i,i<r->aG (l i)
 qJ:∀i,i<r->fU p (fr (λi=>h<|l i) i) (h<|l i)
 am:aG a
 rC:a.length=(fB l p r).length
 ap:Cg p (h a) (fr (λi=>h<|l i) r)
section
variable{p:I}{a:V Z}{l:I->V Z}{r:I}(h:qY p a l r)
include h
def qY.yf{i:I}(d:i<r):∀b,b<=r->Cm p (ps<|l i) (ps<|dM p l i b) (tQ (λi=>ps<|l i) i b)
 |0,_=>by rw[dM,zt];exact Cm.of<|Cg.refl _ _
 |b+1,m=>by
  have g:=qY.yf d b S;have f:(0:Z)<(p:Z):=NI;rw[dM,tQ];split
  .exact g
  .let ⟨d1,_⟩:=iO h.H.hp h.H.tO (je f (dM p l i b)<|l b).1 (h.H.c i d)<|h.H.ne d;have k:Cm p (ps<|l i) (ps<|bT (dM p l i b) (l b) p) (ps (aJ (bT (dM p l i b) (l b) p) (l i) p).2):=⟨_,aU.ps _ _,d1.trans<|Cg.of_eq<|PS.add_comm _ _⟩;refine k.symm.trans<|(Cm.of<|rS _ _ _).trans ?_;exact Cm.mul (aU.ps _ _) (TW b λq _=>aU.ps _ _) (aU.ps _ _) g<|Cm.of<|Cg.refl _ _
def qY.step{b:Z}(hq:0<b)(P:(p:Z)∣b){F:I->V Z}(Q:∀i,i<r->G (F i)=G (l i))(hF:∀i,i<r->Cg p (ps<|F i) (ps<|l i))(ht:∀i,i<r->Y (F i) (G (l i)-1) 0=1)(ha:Cg b (ps a) (fr (λi=>ps<|F i) r)):
  Cg (b*p) (ps a) (fr (λi=>ps<|tL (F i) (nw p a l r b F i) b) r):=by
 have R:=h.H.hp
 have h2:=R.1
 have X:(0:Z)<(p:Z):=S
 have g:=λi f=>h.H.Nr (i:=i) f a b F
 have D:G a=nY (λi=>G (l i)-1) r+1:=by rw[h.rC,IS l p r λi f=>by have:=h.H.l2 i f;omega]
 let ⟨U,u⟩:=ha
 have J:(fB F (b*p) r).length=G a:=by rw[h.rC];exact Tu r Q
 have n:=acD F (b*p) r
 have L:∀i,b*U i%(b*(p:Z))=(Y a i 0-(fB F (b*p) r).getD i 0)%(b*(p:Z)):=λi=>by
  have M:Y a i 0=fr (λi=>ps<|F i) r i+b*U i:=by have:=congrFun u i;rw[PS.eR,PS.eS]at this;exact this
  rw[M];let ⟨t,v⟩:=n.dvd i;have v:(fB F (b*p) r).getD i 0-fr (λi=>ps<|F i) r i=b*(p:Z)*t:=v;rw[show fr (λi=>ps<|F i) r i+b*U i-(fB F (b*p) r).getD i 0=b*U i+b*(p:Z)*(-t)by rw[Int.mul_neg];omega,DC]
 have x:∀i,(Y a i 0-(fB F (b*p) r).getD i 0)%(b*(p:Z))/b=U i%p:=λi=>by rw[<-L i,Int.mul_emod_mul_of_pos _ _ hq,DM _ S]
 have B:∀i,(Y a i 0-(fB F (b*p) r).getD i 0)%(b*(p:Z))=0->U i%(p:Z)=0:=λi f=>by have:=x i;rw[f,acF]at this;exact this.symm
 have m:Cg p (ps<|zW a (fB F (b*p) r) (b*p) b) U:=Cg.of λi=>by
  rw[cc];by_cases e:i<G a
  .rw[zW,EG _ _ e,x i,jJ]
  .rw[cF _ (by simp[zW];omega),dj,B i];rw[cF a S,cF (fB F (b*p) r) S,Bs,dj]
 have k:Cg p (ps<|mb p a r b F) U:=by unfold mb;rw[nR];exact(LU p _).trans m
 have o:Dl p (nY (λi=>G (l i)-1) r) U:=λi f=>B i (by
  by_cases e:i<G a
  .have N:i=G a-1:=by omega
   have O:=n.at i;have w:=TX (p:=b*(p:Z)) (F:=λi=>ps<|F i) (d:=λi=>G (l i)-1) r λj y=>⟨by
    have:=iN (b*(p:Z))<|F j;rw[Q j y]at this;exact this.le S,by
    show Y (F j) (G (l j)-1) 0%_=_;rw[ht j y]⟩
   rw[(S:nY (λi=>G (l i)-1) r=i)]at w;have z:(fB F (b*p) r).getD i 0%(b*(p:Z))=1%(b*(p:Z)):=O.trans w;rw[N]at z⊢;rw[h.am.2,tq,z,<-tq,Bs,dj]
  .rw[cF a S,cF (fB F (b*p) r) S,Bs,dj])
 have E:Cg p (sS (λi=>ps<|F i) (λi=>ps<|nw p a l r b F i) r) U:=by
  refine(acu r hF).trans<|Cg.trans ?_ k;have T:Cg p (sS (λi=>ps<|l i) (λi=>ps<|nw p a l r b F i) r-ps (mb p a r b F)) 0:=by
   refine aob R (F:=λi=>ps<|l i) (d:=λi=>G (l i)-1) (r:=r) (λi f=>⟨(iN p<|l i).le S,?_⟩) (λi f=>?_) h.qJ<|Dl.sub (acA r λi f=>⟨(iN p<|l i).le S,(iN p _).le (g i f).2.2.2⟩)<|o.cg k.symm
   .show Y (l i) (G (l i)-1) 0%_=_;rw[(h.mn i f).2]
   .let ⟨_,_,W,hW,hinv⟩:=h.H.inv f;let ⟨d1,_⟩:=iO R h.H.tO (je X (mb p a r b F)<|lC p (dM p l i r)<|l i).1 (h.H.c i f)<|h.H.ne f;have c1:Cm p (ps<|l i) (ps<|bT (mb p a r b F) (lC p (dM p l i r)<|l i) p) (ps<|nw p a l r b F i):=⟨_,aU.ps _ _,d1.trans<|Cg.of_eq<|PS.add_comm _ _⟩;have c2:Cm p (ps<|l i) (ps<|nw p a l r b F i) (ps (mb p a r b F)*ps (lC p (dM p l i r)<|l i)):=c1.symm.trans<|Cm.of<|rS _ _ _;have c3:=acy (p:=(p:Z)) (F:=λi=>ps<|l i) (C:=λi=>ps<|nw p a l r b F i) (i:=i) r f λb hq=>⟨aU.ps _ _,aU.ps _ _⟩
    have c4:Cm p (ps<|l i) (tQ (λi=>ps<|l i) i r*ps (nw p a l r b F i)) (ps (dM p l i r)*(ps (mb p a r b F)*ps (lC p (dM p l i r)<|l i))):=Cm.mul (aU.ps _ _) (aU.ps _ _) ((aU.ps _ _).mul<|aU.ps _ _) (h.yf f r<|a8 _).symm c2;have c5:Cm p (ps<|l i) (ps (lC p (dM p l i r)<|l i)*ps (dM p l i r)) 1:=⟨W,hW,hinv⟩;have A:Cm p (ps<|l i) (ps (mb p a r b F)*(ps (lC p (dM p l i r)<|l i)*ps (dM p l i r))) (ps (mb p a r b F)*1):=Cm.mul (aU.ps _ _) (aU.ps _ _) (aU.one _) (Cm.of<|Cg.refl _ _) c5;rw[PS.mul_one,(eT:ps (mb p a r b F)*(ps (lC p (dM p l i r)<|l i)*ps (dM p l i r))=ps (dM p l i r)*(ps (mb p a r b F)*ps (lC p (dM p l i r)<|l i)))]at A;let ⟨sf,hV,e⟩:=(c3.trans c4).trans A;refine⟨sf,hV,(e.sub<|Cg.refl _ _).trans<|Cg.of_eq ?_⟩;rw[PS.add_comm,PS.add_sub_cancel]
  have:=T.ou<|ps<|mb p a r b F;rwa[PS.sub_add_cancel,PS.zero_add]at this
 have s:Cg (b*p) (fr (λi=>ps<|tL (F i) (nw p a l r b F i) b) r) (fr (λi=>ps (F i)+PS.K b*ps (nw p a l r b F i)) r):=IP r λi f=>Cg.of_eq (acC _ _ _<|by have:=(g i f).2.2.2;have:=Q i f;omega)
 refine Cg.symm<|s.trans<|(acB P r).trans ?_
 rw[u]
 exact(E.up).LH _
def qY.all:∀b,(∀i,i<r->Cg p (ps<|cM p a l r b i) (ps<|l i))/\(∀i,i<r->Y (cM p a l r b i) (G (l i)-1) 0=1)/\Cg ((p:Z)^(b+1)) (ps a) (fr (λi=>ps<|cM p a l r b i) r)
 |0=>⟨λi _=>Cg.refl _ _,λi c=>(h.mn i c).2,by rw[Be];exact h.ap⟩
 |b+1=>by
  let ⟨m,n,v⟩:=qY.all b;have k:(0:Z)<(p:Z):=NI;have x:(0:Z)<(p:Z)^(b+1):=kV k;have g:(p:Z)∣(p:Z)^(b+1):=⟨(p:Z)^b,by rw[dK,ew]⟩;have f:=λi c=>(h.H.st a b i c).1
  have d:=λi c=>h.H.Nr (i:=i) c a ((p:Z)^(b+1))<|cM p a l r b
  refine⟨λi c=>?_,λi c=>?_,?_⟩
  .have B:=f i c;have C:=(d i c).2.2.2;show Cg p (ps<|tL _ _ _) _;rw[acC _ _ _ S];let ⟨t,ht⟩:=g;refine Cg.trans ⟨PS.K t*ps (nw p a l r ((p:Z)^(b+1)) (cM p a l r b) i),?_⟩<|m i c;rw[ht,PS.rQ,PS.mul_assoc]
  .have B:=f i c;have C:=(d i c).2.2.2;have E:=h.H.l2 i c;show Y (tL _ _ _) _ 0=1;rw[tL,ye _ _ _ _ _ S,s S,n i c,cF (nw p a l r ((p:Z)^(b+1)) (cM p a l r b) i) S,dI,mT]
  .rw[dK (p:Z) (b+1)];exact h.step x g f m n v
end
def EL{a b m}(c:a%m=b%m):cp a m=cp b m:=by unfold cp;rw[c]
def tR{m}(b:0<m) a:cp a m%m=a%m:=by
 unfold cp;split
 .rw[tq,jJ,Int.emod_self,xv,jJ]
 .exact jJ _ _
def acG{m}(a:1<m):cp 1 m=1:=by unfold cp;rw[gT A a,M S]
def aoc m(a:0<m):cp 0 m=0:=by unfold cp;rw[dj,M S]
def m0 F{m}(a:0<m) i:(F.map (cp · m)).getD i 0=cp (Y F i 0) m:=getD_map (f:=(cp · m)) (aoc m a) F i
def aod{F a}{m}(b:0<m)(c:G F=G a)(d:∀i,Y F i 0%m=Y a i 0%m):F.map (cp · m)=a.map (cp · m):=sd (by rw[cL,cL,c]) λj _=>by rw[m0 F b,m0 a b];exact EL<|d j
def wE{F}{m}(b:1<m)(a:aG F):aG (F.map (cp · m)):=by refine⟨λe=>a.1<|List.map_eq_nil_iff.1 e,?_⟩;rw[cL,m0 F S,a.2];exact acG b
def aoe{a b m n:Z}(c:a%m=b%m)(d:n∣m):a%n=b%n:=by obtain⟨t,rfl⟩:=d;rw[<-qZ a (Tj n t),c,qZ b<|Tj n t]
section
variable{p:I}{a:V Z}{l:I->V Z}{r:I}(h:qY p a l r)
include h
def qY.pw(b:I):(1:Z)<(p:Z)^(b+1):=by have d:=h.H.hp.1;have c:(0:Z)<(p:Z)^b:=kV S;rw[dK];have:=ja (S:(2:Z)<=(p:Z))<|zL c;omega
def qY.one(b:I){i:I}(d:i<r):G (cM p a l r b i)=G (l i)/\aG (cM p a l r b i):=by let ⟨_,h2,_⟩:=h.all b;have c:=(h.H.st a b i d).1;refine⟨c,λe=>?_,by rw[c];exact h2 i d⟩;have:=h.H.l2 i d;rw[e]at c;simp at c;omega
def qY.image(b:I){i:I}(d:i<r):au (md p<|(cM p a l r b i).map (cp · ((p:Z)^(b+1))))=l i:=by
 let ⟨f,_,_⟩:=h.all b;have g:=h.H.hp.1;have k:=h.pw b;refine Bq (gH S<|pH S _) (h.H.c i d) ?_;rw[nR];refine(LU p _).trans<|Cg.trans ?_<|f i d;refine Cg.of λj=>?_
 rw[cc,cc,m0 _ S];exact aoe (tR S _) ⟨(p:Z)^b,by rw[dK,ew]⟩
end
open Fx
def acH{p}(H:aX p){b}{d}(c:aU p b)(g:b d=1)(k:∀i,d<i->b i=0):sz (mk b c)=d+1:=by
 have l:sz (mk b c)<=d+1:=xX H.pos c λi m=>by rw[k i S,dj]
 let ⟨a,ha,e⟩:=kc H.pos<|mk b c;have f:=(mk_eq.1 (e:mk (h a) (aU.ps p a)=mk b c)).at d;rw[<-e,bO ha]at l⊢;by_cases hl:G a<=d
 .rw[cc,cF a hl,g,dj,H.one]at f;cases f
 .omega
def TY{p}{a}{n}(b:∀i,n<=i->a i=0):aU p a:=⟨n,λi c=>by rw[b i c,dj]⟩
structure MD(d:I)(a:PS):Prop where
 one:a d=1
 z:∀i,d<i->a i=0
def MD.NJ{d}{a}(b:MD d a) p:aU p a:=TY (n:=d+1) λi c=>b.z i S
def TZ{p:I}(H:aX p){a f K g:PS}{d v:I}(l:MD d a)(m:MD d f)(x:MD v K)(r:MD v g)(B:Co (mk a<|l.NJ p) (mk K<|x.NJ p))(c1:Cg p a f)(c2:Cg p K g):∀b,1<=b->Cg ((p:Z)^b) (a*K) (f*g)->Cg ((p:Z)^b) a f/\Cg ((p:Z)^b) K g
 |0,E,_=>absurd E S
 |1,_,_=>by rw[dK,oQ,j7];exact⟨c1,c2⟩
 |b+1+1,_,E=>by
  have hp:=H.hp.1;have C:Cg ((p:Z)^(b+1)) (a*K) (f*g):=Cg.of λi=>by have k:=qZ ((a*K) i) (show((p:Z)^(b+1))∣(p:Z)^(b+1+1)from⟨p,dK _ _⟩);have F:=qZ ((f*g) i) (show((p:Z)^(b+1))∣(p:Z)^(b+1+1)from⟨p,dK _ _⟩);rw[<-k,E.at,F]
  let ⟨i1,i2⟩:=TZ H l m x r B c1 c2 (b+1) S C;obtain⟨q,eq⟩:∃q,q=(p:Z)^(b+1):=⟨_,J⟩;have o:q≠0:=by rw[eq];exact Int.ne_of_gt<|kV S
  rw[<-eq]at i1 i2;rw[dK,<-eq]at E⊢;let ⟨U,s⟩:=i1.symm;let ⟨V,u⟩:=i2.symm;have zU:∀i,d<=i->U i=0:=λi y=>by
   have k:f i=a i+q*U i:=by rw[s,PS.eR,PS.eS]
   have F:f i=a i:=by
    by_cases v:i=d
    .subst v;rw[l.one,m.one]
    .rw[l.z i S,m.z i S]
   have P:q*U i=0:=S;exact(K4.1 P).resolve_left o
  have zV:∀i,v<=i->V i=0:=λi y=>by
   have k:g i=K i+q*V i:=by rw[u,PS.eR,PS.eS]
   have F:g i=K i:=by
    by_cases D:i=v
    .subst D;rw[x.one,r.one]
    .rw[x.z i S,r.z i S]
   have P:q*V i=0:=S;exact(K4.1 P).resolve_left o
  have Q:aU p U:=TY zU;have L:aU p V:=TY zV;have M:(p:Z)∣q:=by rw[eq,dK];exact B1 _ _
  have N:Cg p (a*V+U*K) 0:=Cg.Rn λi=>by
   have k:=E.symm.dvd i;have D:f*g=a*K+PS.K q*(a*V+U*K)+PS.K q*(PS.K q*(U*V)):=by rw[s,u];simp only[PS.mul_add,PS.add_mul];ac_rfl
   rw[D,PS.eR,PS.eR,PS.eS,PS.eS,PS.eS]at k;let ⟨w,hw⟩:=k;have F:q*((a*V+U*K) i+q*(U*V) i)=q*(p*w):=by rw[nc,<-jb q (p:Z) w,<-hw];omega
   have P:=Int.eq_of_mul_eq_mul_left o F;let ⟨z,hz⟩:=M;refine⟨w-z*(U*V) i,?_⟩;rw[PS.l0,xv,DD,<-P,hz,jb];omega
  have c:=l.NJ p;have R:=x.NJ p;have O:mk a c*mk V L+mk U Q*mk K R=0:=mk_eq.2 N;have d1:mk a c∣mk U Q*mk K R:=uR (by rw[O];exact dvd_zero _)<|dvd_mul_right _ _;have sG:sz (mk a c)=d+1:=acH H c l.one l.z;have u0:mk U Q=0:=by
   refine rY H (B.dvd<|by rw[mul_comm];exact d1) ?_;have:=xX H.pos Q (n:=d) λi y=>by rw[zU i y,dj]
   omega
  rw[u0,zero_mul,add_zero]at O;have T:mk a c≠0:=λe0=>by rw[e0,kd H.pos]at sG;omega
  have v0:mk V L=0:=dQ λhv=>nQ H T hv O
  have X:∀{A Y W:PS}(hW:aU p W),Y=A+PS.K q*W->mk W hW=0->Cg (q*p) A Y:=λ{A Y W} hW hA hW0=>Cg.symm (Cg.Rn λi=>by have k:=(mk_eq.1 (hW0:mk W hW=mk 0 (aU.zero p))).dvd i;rw[PS.l0,xv]at k;let ⟨t,ht⟩:=k;refine⟨t,?_⟩;rw[hA,PS.eR,PS.eS,ht,jb];omega)
  exact⟨X Q s u0,X L u v0⟩
def bg(b:I->Bool):I->V (V Z)->V (V Z)
 |_,[]=>[]
 |i,f::l=>if b i then f::bg b (i+1) l else bg b (i+1) l
def iG(m:Z)(g:V Z):V (V Z)->V Z
 |[]=>g
 |f::l=>iG m (nW g f m) l
def jB:V (V Z)->PS
 |[]=>1
 |f::l=>h f*jB l
def b7:V (V Z)->I
 |[]=>0
 |f::l=>(G f-1)+b7 l
def T0(b:I->Bool):∀(l r:V (V Z))(i:I),bg b i (l++r)=bg b i l++bg b (i+G l) r
 |[],r,i=>rfl
 |f::l,r,i=>by rw[kU,bg,bg,T0 b l r<|i+1,fu,(S:i+1+G l=i+(G l+1))];split<;>rfl
def T1(m:Z):∀(l r:V (V Z))(g:V Z),iG m g (l++r)=iG m (iG m g l) r
 |[],_,_=>rfl
 |f::l,r,g=>T1 m l r<|nW g f m
def tS{b:I->Bool}{x:V Z}:∀{l:V (V Z)}{i:I},x∈bg b i l->x∈l
 |[],_,a=>a
 |f::l,i,a=>by
  rw[bg]at a;split at a
  .rcases df.1 a with rfl|a
   .simp
   .simp[tS a]
  .simp[tS a]
def IT{b:I->Bool}{R:V Z->V Z->Prop}:∀{l:V (V Z)}{i:I},l.Pairwise R->(bg b i l).Pairwise R
 |[],_,a=>a
 |f::l,i,a=>by
  let ⟨c,h2⟩:=im.1 a;rw[bg];split
  .exact im.2 ⟨λy d=>c y<|tS d,IT h2⟩
  .exact IT h2
def T2(b:I->Bool):∀(l:V (V Z))(i:I),jB (bg b i l)*jB (bg (λi=> !b i) i l)=jB l
 |[],_=>PS.mul_one 1
 |f::l,i=>by
  have a:=T2 b l<|i+1;rw[bg,bg];cases b i
  .simp only[Gg,cA,jQ,cC,jB];rw[<-a];ac_rfl
  .simp only[NK,cA,jQ,cC,jB];rw[<-a];ac_rfl
def NL(b:I->Bool):∀(l:V (V Z))(i:I),b7 (bg b i l)+b7 (bg (λi=> !b i) i l)=b7 l
 |[],_=>rfl
 |f::l,i=>by
  have a:=NL b l<|i+1;rw[bg,bg];cases b i
  .simp only[Gg,cA,jQ,cC,b7];omega
  .simp only[NK,cA,jQ,cC,b7];omega
def NM(m:Z):∀(l:V (V Z))(g:V Z),Cg m (h<|iG m g l) (h g*jB l)
 |[],g=>Cg.of_eq (PS.mul_one _).symm
 |f::l,g=>by refine(NM m l<|nW g f m).trans<|((No g f m).oT _).trans<|Cg.of_eq ?_;rw[jB];ac_rfl
def aog{a b}{m}(k:1<m)(d:aG a)(f:aG b):aG (nW a b m):=by
 have v:=bX.2 d.1;have x:=bX.2 f.1;have c:=zT a b m;have l:=Cg.trans (No a b m)<|Cg.refl m _;have g:=l.at<|G a-1+(G b-1);have n:(h a*h b) (G a-1+(G b-1))=1:=by
  rw[PS.gG,ya (a:=G a-1) S λi B p=>?_]
  .rw[(S:G a-1+(G b-1)-(G a-1)=G b-1),cc,cc,d.2,f.2];rfl
  .by_cases e:G a<=i
   .rw[cc,cF a e,ko]
   .rw[cc b,cF b S,dI]
 let ⟨r1,r⟩:=Tv a b (by omega:0<m)<|G a-1+(G b-1);rw[n,cc,gT r1 r,gT A k]at g;refine⟨λe=>by rw[e]at c;simp at c;omega,?_⟩;rw[c,(S:G a+G b-1-1=G a-1+(G b-1))];exact g
def wF{m:Z}(a:1<m):∀{l:V (V Z)}{g:V Z},aG g->(∀f∈l,aG f)->aG (iG m g l)/\G (iG m g l)=G g+b7 l
 |[],g,hg,_=>⟨hg,J⟩
 |f::l,g,hg,b=>by
  have c:=b f ax;have i:=bX.2 c.1;have k:=bX.2 hg.1;let ⟨d,h2⟩:=wF a (l:=l) (aog a hg c) λx hx=>b x iB
  refine⟨d,?_⟩;rw[iG,h2,zT,b7];omega
def yi:aG [1]:=⟨ax,J⟩
def aG.q6{a}(b:aG a):MD (G a-1) (h a):=⟨b.2,λi c=>cF a S⟩
def gS(m:Z)(l:V (V Z))(b:I->Bool):V Z:=(iG m [1] (bg b 0 l)).map (cp · m)
section
variable{p:I}
def fj:V (V Z)->Fx p
 |[]=>1
 |f::l=>fx f*fj l
def aoh l:aU p (jB l):=by
 induction l with
 |nil=>exact aU.one p
 |cons f l a=>exact(aU.ps p f).mul a
def vf:∀l:V (V Z),(fj l:Fx p)=mk (jB l) (aoh l)
 |[]=>rfl
 |f::l=>by rw[fj,vf l];rfl
def yj l m(a:(p:Z)∣m):(fx (iG m [1] l):Fx p)=fj l:=by rw[vf];refine mk_eq.2 ?_;have h:=NM m l [1];rw[zt,PS.one_mul]at h;exact Cg.of λi=>by have b:=h.at i;rw[<-qZ _ a,b,qZ _ a]
def pY(H:aX p){g}(a:aG g):sz (fx g:Fx p)=G g:=by have:=bX.2 a.1;have b:=acH H (aU.ps p g) a.q6.one a.q6.z;rw[(S:G g-1+1=G g)]at b;exact b
def acI(H:aX p){g a}(b:aG g)(d:aG a){f:Fx p}(m:sz f=1)(i:fx g=f*fx a):(fx g:Fx p)=fx a:=by
 have v:=pY H b;have s2:=pY H d;have x:=bX.2 b.1;have k:f≠0:=λe=>by rw[e,kd H.pos]at m;omega
 have l:(fx a:Fx p)≠0:=λe=>by rw[e,kd H.pos]at s2;have:=bX.2 d.1;omega
 have r:=dE H k l;rw[<-i]at r;obtain⟨c,B,rfl⟩:=D8 H m;have n:h g (G g-1)%(p:Z)=(PS.K c*h a) (G g-1)%(p:Z):=(mk_eq.1 (i:mk (h g) (aU.ps p g)=mk (PS.K c*h a) ((aU.K p c).mul<|aU.ps p a))).at (G g-1);rw[PS.eS,cc,cc,b.2,(S:G g-1=G a-1),d.2,lA]at n;rw[i,(rW n.symm:(K c:Fx p)=K 1),l4,one_mul]
def T3(H:aX p){c:Fx p}:∀{l:V (V Z)},l.Pairwise (λx a=>Co (fx x:Fx p)<|fx a)->(∀f∈l,(fx f:Fx p)∣c)->(fj l:Fx p)∣c
 |[],_,_=>⟨c,(mul_one c).symm⟩
 |f::l,hp,b=>by
  let ⟨g,h2⟩:=im.1 hp;refine Co.Mb ?_ (b f ax)<|T3 H h2 λx hx=>b x iB;have d:∀{l:V (V Z)},(∀a∈l,Co (fx f:Fx p) (fx a))->Co (fx f:Fx p) (fj l):=by
   intro l;induction l with
   |nil=>intro _;exact⟨0,1,by rw[zero_mul,zero_add];exact one_mul 1⟩
   |cons a l i=>intro b;exact(b a ax).mul (i λz k=>b z<|by simp[k])
  exact d g
def IU{b:I->Bool}{x:V Z}:∀{l:V (V Z)}{i:I},x∈bg b i l->∃a,a<G l/\b (i+a)=ae/\l.getD a []=x
 |[],_,c=>by cases c
 |f::l,i,c=>by
  rw[bg]at c;split at c
  .rename_i g;rcases df.1 c with rfl|c
   .exact⟨0,ax,g,J⟩
   .let ⟨a,k,h2,d⟩:=IU c;exact⟨a+1,bP,by rw[(S:i+(a+1)=i+1+a)];exact h2,d⟩
  .let ⟨a,k,h2,d⟩:=IU c;exact⟨a+1,bP,by rw[(S:i+(a+1)=i+1+a)];exact h2,d⟩
def T4{b:I->Bool}:∀{l:V (V Z)}{i j:I},j<G l->b (i+j)=ae->l.getD j []∈bg b i l
 |[],_,_,h,_=>by simp at h
 |f::l,i,0,_,h=>by rw[bg,s du];simp
 |f::l,i,j+1,h,a=>by
  have:=T4 (l:=l) (i:=i+1) (j:=j) (by simp at h;omega) (by rw[(S:i+1+j=i+(j+1))];exact a);rw[bg];split
  .exact uj _ this
  .exact this
end
def aoi{x m}(a:2*(aq x:Z)<m):cp x m=x:=by
 unfold cp;by_cases hx:0<=x
 .rw[gT hx S,M S]
 .have e:x%m=x+m:=by rw[<-RB,gT S S]
  rw[e,s S];omega
end Go.El
