/- Contracts: modular numbers of the reference; lists of numbers modulo p. Own work; no condition. -/
import Derived.Test.YtceihkmakfdcnaaGreatD6
import Derived.Test.YtceihkmakfdcnaaGreatD5
import Derived.Test.YtceihkmakfdcnaaGreatD3
set_option linter.all false
set_option maxHeartbeats 16000000
set_option maxRecDepth 100000
open Bool renaming false->ah,true->ae
open Go.Builtin renaming copy_->aaF
open Go.El renaming cS->I,rr->N,ja->S,re->z,du->j,jd->r,cI->R,rb->F
open Go.Proofs.Tryz renaming prog->q
open Int renaming toNat->af,natAbs->aC,gcd->iu,ediv_mul_cancel->al'
open List renaming getD->E,length->Z,take->c,range->bX,replicate->bc,map->SW
open Nat renaming Coprime->SK
open Nat.Coprime renaming mul_right->ama
open Option renaming some->ad
open Rat renaming divInt->jI,inv_def->aas,divInt_add_divInt->al9
open _root_ renaming Nat->Y,Int->G,List->V,Rat->e
namespace Go.El
open Go Go.Proofs Go.RowKit
def alS(a n p:Y)(A:n<18446744073709551616)(d:0<p)(u:p<=4294967296):r q 284 [cU a,cU n,cU p] (cU<|ux a n p):=by
 refine aI Tryz.func284 ?_;have B:(p:G)≠0:=O;refine N J<|N J (hp:=aF)<|N J (hp:=aF)<|j<|N J ?_;refine au<|a8 (α:=Y×Y×Y×Y) (λx=>⟨[(2,cU p),(7,cU x.2.1),(8,cU x.2.2.1),(9,cU x.2.2.2)],[],4,[]⟩) (λx=>rO x.1 x.2.1 x.2.2.1 x.2.2.2 p=ux a n p/\x.2.2.2<2^x.1/\x.2.1<p/\x.2.2.1<p/\x.2.2.2<18446744073709551616) (λx=>x.2.2.2) (64,1%p,a%p,n) ⟨J,A,fS _ d,fS _ d,A⟩ (wk ⟨sR J,sE J ?_,sE J ?_,sR J,h⟩ h) ?_
 .exact bP<|mJ 1 p
 .exact bP<|mJ a p
 .rintro⟨f,v,g,m⟩ ⟨i,hm,y,l,k⟩;simp only at i hm y l k;refine j (N J<|al J (λo=>?_)<|λo=>?_)
  .have o:(m:G)>0:=aU o;cases f with
   |zero=>rw[po]at hm;omega
   |succ f=>
    have s:m/2<2^f:=by rw[fO]at hm;omega
    rw[rO,w O]at i
    have C:(m:G).tmod 2=((m%2:Y):G):=mJ m 2
    refine aD<|j<|au<|j<|N J (hp:=aF)<|al J (λt=>?_)<|λt=>?_
    .have t:(m:G).tmod 2=1:=eq_of_beq t;rw[b O]at i;refine rt J (hp:=aF) (aL<|rt J (hp:=aF)<|bw<|rt J (hp:=aF)<|aT (f,v*g%p,g*g%p,m/2) ⟨i,s,fS _ d,fS _ d,Mz⟩ MA<|wk ⟨sR J,sE J ?_,sE J ?_,sE J ?_,h⟩ h)
     .exact bP<|EG v g p y l u
     .exact bP<|EG g g p l l u
     .exact bP<|BK m k
    .have t:(m:G).tmod 2≠1:=nV t;rw[w O]at i;refine aD (rt J (hp:=aF)<|bw<|rt J (hp:=aF)<|aT (f,v,g*g%p,m/2) ⟨i,s,y,fS _ d,Mz⟩ MA<|wk ⟨sR J,sR J,sE J ?_,sE J ?_,h⟩ h)
     .exact bP<|EG g g p l l u
     .exact bP<|BK m k
  .have o:¬(m:G)>0:=a6 o;have:m=0:=O;subst this;refine a7<|aL<|N J<|bU J ?_;rw[<-i];cases f with
   |zero=>rfl
   |succ f=>rw[rO,b J]
def Sx a p(f:0<=a/\a<p)(k:a≠0)(g:2<=p)(l:p<=2147483648):r q 248 [cU a,cU p] (.t [(ah,[.I .u64 (jg (af a) (af p):Y)]),(ah,[.I .i64 0])]):=by
 obtain⟨a,rfl⟩:=BF f.1;obtain⟨p,rfl⟩:=BF (O:0<=p);rw[bY,bY];refine aI Tryz.func248 ?_;have i:(p:G)≠0:=O;refine N J<|j<|N J (hp:=aF)<|al J (λd=>?_)<|λd=>aD ?_
 .exfalso;have d:(a:G).tmod (p:G)=0:=eq_of_beq d;rw[mJ,o6 O]at d;omega
 .have e:r q 284 [cU a,.c (num .u64<|(p:G)-2).1,cU p] (cU<|ux a (p-2) p):=by rw[show(AV.c (num .u64<|(p:G)-2).1)=cU ((p-2:Y):G)from bP<|(wrap_u64 _ O O).trans O];exact alS a (p-2) p O O O
  exact bt J J e J<|cw J
def If(a:V G)(i:Y):r q 285 [I aw a,R i] (cU<|E a i 0):=by
 refine aI Tryz.func285 ?_;refine N J<|j<|N J<|al J (λh=>?_)<|λh=>aD ?_
 .have h:(i:G)<(Z a:G):=aU h;refine N J (hp:=aF)<|bL<|cK<|eJ J<|bP ?_;rw[bY]
 .have h:¬(i:G)<(Z a:G):=a6 h;refine N J<|bU J<|bP ?_;rw[aK,iX O];rfl
def md(p:G)(a:V G):V G:=a.map (·%p)
def xD p a:(md p a).length=Z a:=cy _
def getD_map{f:G->G}(d:f 0=0) a i:E (a.map f) i 0=f (E a i 0):=by
 rw[aK,jh,aK];cases a[i]? with
 |none=>exact d.symm
 |some x=>rfl
def Ig p a i:(md p a).getD i 0=E a i 0%p:=getD_map (gZ p) a i
def BP{p}(d:0<p) a:rp p (md p a):=λi=>by rw[Ig];exact⟨iN _ O,iO _ d⟩
def Ih{p}{a}(d:rp p a):md p a=a:=by refine rF (xD p a)<|λi g f=>?_;have:=d i;rw[aK,cO f,rh]at this;simp only[md,Bg];exact gX this.1 this.2
def rU(a:V G) i(d:i<Z a):c (i+1) a=c i a++[E a i 0]:=by rw[sH,aK,cO d];rfl
def xE(a:V G) p(s:Z a<=1000000)(m:0<p)(t:p<18446744073709551616)(n:∀i,0<=E a i 0):r q 203 [I aw a,cU p] (I aw<|aN<|md p a):=by
 refine aI Tryz.func203 ?_;have o:=xD p a;refine N J<|F<|fT aw [] J J (z J<|du<|N J ?_);refine au<|a8 (α:=Y) (λi=>⟨[(0,I aw a),(1,cU p),(5,.c<|.X 1000000),(6,R i)],[(1000000,.vec 150 aw<|(md p a).take i)],3,[]⟩) (λi=>i<=Z a) (λi=>Z a-i) 0 (aY _) aM ?_
 .intro i u;refine du (N J<|al J (λd=>?_)<|λd=>?_)
  .have d:i<Z a:=by have d:(i:G)<(Z a:G):=aU d;omega
   have v:Z ((md p a).take i)=i:=b8;refine aD<|du<|au<|cu ?_;refine rl aw [_] J J (hp:=aF) (ra J J J J J J J J J ?_ ?_<|z J ?_)
   .show(_+1+(_+1)/4+192)*8<=_;omega
   .show(_+1)*1<=_;omega
   refine bw<|rt J<|aT (i+1) d nS<|Wk.trans (wk (st':=⟨[(0,I aw a),(1,cU p),(5,.c<|.X 4008000),(6,R ((i+1:Y):G))],[(4008000,.vec 150 aw<|(md p a).take<|i+1)],8,[]⟩) (bO J) ⟨bE J ?_,h⟩)<|Wk.trans (fU 1000000 4008000 J J J) aM;refine be (aG.vec 150 aw) ?_;rw[rU _ i O,Ig,bY,me<|n i]
  .have d:i=Z a:=by have d:¬(i:G)<(Z a:G):=a6 d;omega
   subst d;refine a7<|aL<|cY 1000000 J J J ?_;generalize x:md p a=L at*;refine du<|au<|a8 (α:=Y) (λk=>⟨[(5,I aw<|c k L)],[],10,[]⟩) (λk=>k<=Z L/\gk L k=gk L (Z L)) (λk=>k) (Z L) ⟨aO _,J⟩ (wk ⟨sE J ?_,h⟩ h) ?_
   .rw[iY (O:Z L<=Z a),fR];rfl
   rintro k ⟨y,f⟩;have g:(c k L).length=k:=b8;refine du<|F ?_;refine rg 26 J J (λd=>?_)<|λd=>?_
   .have d:0<k:=by have d:(((c k L).length:Y):G)>0:=aU d;rw[g]at d;omega
    obtain⟨j,rfl⟩:∃j,k=j+1:=⟨k-1,O⟩;have l:af (((c (j+1) L).length:G)-1)=j:=by rw[g];omega
    have ev:(c (j+1) L).getD j 0=E L j 0:=by rw[aK,AH O,<-aK]
    refine z J (hp:=aF)<|al J (λh2=>?_)<|λh2=>?_
    .have h2:E L j 0=0:=by have h2:(c (j+1) L).getD (af<|((c (j+1) L).length:G)-1) 0=0:=eq_of_beq h2;rwa[l,ev]at h2
     refine aD<|au<|rt J (hp:=aF)<|eE<|aT j ⟨O,?_⟩ s8<|wk ⟨sE J ?_,h⟩ h
     .rw[<-f,gk,b h2]
     .rw[l];simp only[qu,Lb];rw[oh O]
    .have h2:E L j 0≠0:=by have h2:(c (j+1) L).getD (af<|((c (j+1) L).length:G)-1) 0≠0:=nV h2;rwa[l,ev]at h2
     refine a7<|aL<|N J<|bU J ?_;unfold aN;rw[<-f,gk,w h2]
   .have d:k=0:=by have d:¬(((c k L).length:Y):G)>0:=a6 d;rw[g]at d;omega
    subst d;refine z J<|al J (λh2=>mM)<|λ_=>?_;refine a7<|aL<|N J<|bU J ?_;unfold aN;rw[<-f];rfl
def uz a b p(B:Z a<=1000)(H:Z b<=1000)(f:0<p)(s:p<=2147483648)(t:rp p a)(u:rp p b):r q 249 [I aw a,I aw b,cU p] (I aw<|cT a b p):=by
 refine aI Tryz.func249 ?_;have l:a=[]\/b=[]->I aw []=I aw (cT a b p):=λd=>by rw[cT,gw d]
 refine N J<|du<|F ?_;refine rg 13 J J (λd=>?_)<|λd=>?_
 .have d:a=[]:=by simpa using d
  refine z J<|al J (λh2=>?_)<|λh2=>mM;exact N J<|bL<|cK<|ig cv J<|bl.trans (bl.nil aw)<|bl.of_eq<|l<|.inl d
 .have d:a≠[]:=by simpa using d
  refine z J<|al J (λh2=>?_)<|λh2=>?_
  .have h2:b=[]:=by simpa using h2
   exact N J<|bL<|cK<|ig cv J<|bl.trans (bl.nil aw)<|bl.of_eq<|l<|.inr h2
  .have h2:b≠[]:=by simpa using h2
   have C:=bQ.2 d;have K:=bQ.2 h2;refine aD<|F ?_;refine rm aw (Z a+Z b-1) J J J J J J (mI .u64) O ?_ ?_ ?_
   .show _*8<=_;omega
   .show _*1<=_;omega
   refine z J<|du<|N J ?_;refine au<|a8 (α:=Y) (λi=>⟨[(0,I aw a),(1,I aw b),(2,cU p),(7,.c<|.X 2006000),(8,R i)],[(2006000,.vec 150 aw<|mN a b p i)],4,[]⟩) (λi=>i<=Z a) (λi=>Z a-i) 0 (aY _) aM ?_;intro i L;have v:=H6 a b p i;refine du<|N J<|al J (λg=>?_)<|λg=>?_
   .have g:i<Z a:=by have g:(i:G)<(Z a:G):=aU g;omega
    refine aD<|du<|au<|N J ?_;refine au<|a8 (α:=Y) (λj=>⟨[(0,I aw a),(1,I aw b),(2,cU p),(7,.c<|.X 2006000),(8,R i),(9,R j)],[(2006000,.vec 150 aw<|rP a b p i j<|mN a b p i)],7,[]⟩) (λj=>j<=Z b) (λj=>Z b-j) 0 (aY _) aM ?_;intro j M;have x:=H5 a b p i (mN a b p i) j;refine du<|N J<|al J (λk=>?_)<|λk=>?_
    .have k:j<Z b:=by have k:(j:G)<(Z b:G):=aU k;omega
     have y:=t i;have A:=u j;have gr:=MC f (a:=a) (b:=b) i (H7 a b f i) j<|i+j;have m:af ((i:G)+(j:G))=i+j:=O;refine aD<|du<|au<|rt J (hp:=aF) ?_;refine bw<|rt J<|aT (j+1) k Sh<|wk (bO J) ⟨bE J ?_,h⟩;refine be (aG.vec 150 aw) ?_;rw[rP,m,<-ZQ _ _ _ p gr y A s];rfl
    .have k:j=Z b:=by have k:¬(j:G)<(Z b:G):=a6 k;omega
     subst k;exact a7<|bw<|rt J<|aT (i+1) g nS<|wk (bO J) ⟨bE J J,h⟩
   .have g:i=Z a:=by have g:¬(i:G)<(Z a:G):=a6 g;omega
    subst g;have n:=H7 a b f<|Z a;have o:=xE (mN a b p<|Z a) p O f O<|λi=>(n i).1;rw[Ih n]at o;refine a7<|aL<|cY 2006000 J J J<|bt J J o J<|bU J ?_;rw[cT,w<|λe=>e.elim d h2]
def gx(a d:V G)(p:G):V G:=(bX<|max (Z a)<|Z d).map λi=>(E a i 0+p-E d i 0)%p
def MQ a d p:Z (gx a d p)=max (Z a) (Z d):=by simp[gx]
def BQ{p}(d:0<p) a f:rp p (gx a f p):=λi=>by
 unfold gx;rw[aK,jh];by_cases h:i<max (Z a) (Z f)
 .rw[k6 h];exact⟨iN _ O,iO _ d⟩
 .rw[iX b8];exact⟨hO _,d⟩
def Ii a d p(B:Z a<=1000)(H:Z d<=1000)(m:0<p)(P:p<=2147483648)(t:rp p a)(u:rp p d):r q 252 [I aw a,I aw d,cU p] (I aw<|aN<|gx a d p):=by
 refine aI Tryz.func252 ?_;generalize hM:max (Z a) (Z d)=M;have y:M<=1000:=O;let L:=(bX M).map λi=>E a i 0+p-E d i 0
 have C:Z L=M:=by simp[L]
 have g:∀i,i<M->E L i 0=E a i 0+p-E d i 0:=λi v=>by simp only[L];rw[aK,jh,k6 v];rfl
 have n:md p L=gx a d p:=by simp only[L,md,gx,MR,hM];rfl
 have o:∀i,0<=E L i 0:=λi=>by
  by_cases f:i<M
  .rw[g i f];have A:=t i;have h2:=u i;omega
  .rw[aK,iX O];exact hO _
 clear_value L;refine N J<|F<|fT aw [] J J (z J<|j<|N J ?_);refine au<|a8 (α:=Y) (λi=>⟨[(0,I aw a),(1,I aw d),(2,cU p),(7,.c<|.X 1000000),(8,R i)],[(1000000,.vec 150 aw<|c i L)],3,[]⟩) (λi=>i<=M) (λi=>M-i) 0 (aY _) aM ?_;intro i v;have K:(c i L).length=i:=b8;by_cases k:i<M
 .refine jH ⟨[(0,I aw a),(1,I aw d),(2,cU p),(7,.c<|.X 1000000),(8,R i)],[(1000000,.vec 150 aw<|c i L)],4,[]⟩ ?_ (λl=>F<|rg 14 J J (λf=>z J<|al J (λ_=>cP<|dB l aM)<|λh2=>mM)<|λf=>z J<|al J (λ_=>cP<|dB l aM)<|λh2=>?_)
  .have A:=t i;have h2:=u i;refine j<|au<|cu ?_;refine rc J J (If a i)<|rc J J (If d i) ?_;refine rl aw [_] J J (ra J J J J J J J J J ?_ ?_<|z J ?_)
   .show(_+1+(_+1)/4+192)*8<=_;omega
   .show(_+1)*1<=_;omega
   refine bw<|rt J<|aT (i+1) k xp<|Wk.trans (wk (st':=⟨[(0,I aw a),(1,I aw d),(2,cU p),(7,.c<|.X 4011000),(8,R ((i+1:Y):G))],[(4011000,.vec 150 aw<|c (i+1) L)],8,[]⟩) (bO J) ⟨bE J ?_,h⟩)<|Wk.trans (fU 1000000 4011000 J J J) aM;refine be (aG.vec 150 aw) ?_;rw[rU _ i O,g i k,wrap_u64 (E a i 0+p) O O,wrap_u64 _ O O]
  .exfalso;have f:¬(i:G)<(Z a:G):=a6 f;have h2:¬(i:G)<(Z d:G):=a6 h2;omega
 .have s:i=M:=by omega
  subst s;have x:=xE L p O m O o;rw[n]at x;refine j<|F<|rg 14 J J (λf=>?_)<|λf=>?_
  .exfalso;have f:(i:G)<(Z a:G):=aU f;omega
  .refine z J (al J (λh2=>?_)<|λh2=>?_)
   .exfalso;have h2:(i:G)<(Z d:G):=aU h2;omega
   .rw[iY O];exact a7<|aL<|cY 1000000 J J J<|bt J J x J<|cw J
def bA(p:G)(a:V G):Prop:=rp p a/\can a
def aac(a:V G):∀n i,gk a n<=i->i<n->E a i 0=0
 |0,i,_,f=>by omega
 |n+1,i,d,h2=>by
  rw[gk]at d;split at d
  .rename_i f;by_cases g:i=n
   .rw[g];exact f
   .exact aac a n i d O
  .omega
def Ij(a:V G) n i:(c n a).getD i 0=if i<n then E a i 0 else 0:=by
 rw[aK,DE];split
 .rw[aK]
 .rfl
def fp(a:V G){i}(d:Z a<=i):E a i 0=0:=by rw[aK,iX d];rfl
def qJ a:ps (aN a)=ps a:=PS.ext λi=>by
 rw[cH,cH,aN,Ij];split
 .rfl
 .rename_i h;by_cases e:i<Z a
  .exact(aac a (Z a) i O e).symm
  .exact(fp a O).symm
def Sy{p}(d:0<p){a}(f:rp p a) n:rp p (c n a):=λi=>by
 rw[Ij];split
 .exact f i
 .exact⟨hO _,d⟩
def aad{p}(d:0<p){a}(f:rp p a):rp p (aN a):=Sy d f _
def k7{p}(d:0<p){a}(f:rp p a):bA p (aN a):=⟨aad d f,Gt a⟩
def rV{p}(a:0<p):bA p []:=⟨λi=>by simp;exact a,.inl J⟩
def py a:Z (aN a)<=Z a:=by unfold aN;rw[eL];omega
def v3{a}(d:can a):aN a=a:=by
 have:gk a (Z a)=Z a:=by
  cases hl:Z a with
  |zero=>rfl
  |succ n=>
   rw[gk,w]
   rcases d with d|d
   .rw[d]at hl;cases hl
   .rw[hl]at d;exact d
 rw[aN,this,fR]
def bA.top{p}{a}(f:bA p a){n}(d:Z a=n+1):E a n 0%p≠0:=by
 rcases f.2 with e|e
 .rw[e]at d;cases d
 .rw[d,eK]at e;have:=f.1 n;rw[gX this.1 this.2];exact e
def bA.len{p}{a}(d:bA p a){n}(f:Dl p n (ps a)):Z a<=n:=by
 by_cases e:Z a<=n
 .exact e
 .obtain⟨m,g⟩:∃m,Z a=m+1:=⟨Z a-1,O⟩;exact absurd (f m O)<|d.top g
def MS{p}{a d}(g:bA p a)(k:bA p d)(f:Cg p (ps a) (ps d)):a=d:=by have t:=g.len<|(k5 p d).cg f.symm;have u:=k.len<|(k5 p a).cg f;refine rF O<|λi o s=>?_;have l:=f.at i;have m:=g.1 i;have n:=k.1 i;rw[cH,cH,gX m.1 m.2,gX n.1 n.2,aK,aK,cO o,cO s]at l;exact l
def aae p a:Cg p (ps<|md p a) (ps a):=Cg.of λi=>by rw[cH,cH,Ig,mP]
def BR:ps []=0:=PS.ext λi=>by rw[cH,PS.mO];rfl
def Ik{a}{k}v(d:k<Z a):ps (a.set k v)=ps a+PS.K (v-E a k 0)*PS.X k:=PS.ext λi=>by
 rw[PS.eV,PS.fa,cH,cH,uk _ _ _ _ d];unfold PS.X;split
 .rename_i e;first
   | (subst e;simp;omega)
   | (rw[e];simp;omega)
 .rename_i e;rw[w (λd=>e d.symm)];omega
def Il a i:ps (c (i+1) a)=ps (c i a)+PS.K (E a i 0)*PS.X i:=PS.ext λj=>by
 rw[PS.eV,PS.fa,cH,cH,Ij,Ij];unfold PS.X;by_cases h:j<i
 .rw[b h,b O,w O];omega
 .by_cases e:j=i
  .subst e;rw[b O,w O,b J];omega
  .rw[w O,w O,w e];omega
def Im a:ps (c 0 a)=0:=by rw[H4,BR]
def MU:ps [1]=1:=PS.ext λi=>by
 cases i with
 |zero=>rfl
 |succ i=>rfl
def MV n:ps (bc n 0)=0:=PS.ext λi=>by rw[cH,PS.mO,aK,lM];split<;>rfl
def Cg.aaf{p a d}(f:a%p=d%p) A:Cg p (PS.K a*A) (PS.K d*A):=(Cg.K f).BM A
def aag(a f:V G)(p:G)(i:Y)(g:V G):∀d,i+d<=Z g->Cg p (ps<|rP a f p i d g) (ps g+PS.K (E a i 0)*PS.X i*ps (c d f))
 |0,_=>by rw[rP,Im,PS.mul_zero,PS.add_zero];exact Cg.refl _ _
 |d+1,l=>by
  have k:=aag a f p i g d O;rw[rP,Ik _ (by rw[H5];omega),Il,PS.mul_add,<-PS.add_assoc];refine k.add ?_;have e:PS.K (E a i 0)*PS.X i*(PS.K (E f d 0)*PS.X d)=PS.K (E a i 0*E f d 0)*PS.X (i+d):=by rw[PS.zk,PS.MI];ac_rfl
  rw[e];refine Cg.aaf ?_ _;rw[xF,mP,<-xF];congr 1;omega
def aah(a d:V G)(p:G):∀i,i<=Z a->Cg p (ps<|mN a d p i) (ps (c i a)*ps d)
 |0,_=>by rw[mN,MV,Im,PS.zero_mul];exact Cg.refl _ _
 |i+1,k=>by have g:=aah a d p i O;have f:=aag a d p i (mN a d p i) (Z d) (by rw[H6];omega);rw[fR]at f;rw[mN,Il,PS.add_mul];exact f.trans<|g.EJ _
def EP a d p:Cg p (ps<|cT a d p) (ps a*ps d):=by
 unfold cT;split
 .rename_i h;rcases h with h|h
  .rw[h,BR,PS.zero_mul];exact Cg.refl _ _
  .rw[h,BR,PS.mul_zero];exact Cg.refl _ _
 .rw[qJ];have:=aah a d p (Z a)<|aO _;rwa[fR]at this
def nv{p}(d:0<p) a f:bA p (cT a f p):=by
 unfold cT;split
 .exact rV d
 .exact k7 d<|H7 a f d _
def v5 a d p:Z (cT a d p)<=Z a+Z d-1:=by
 unfold cT;split
 .exact aY _
 .have:=py<|mN a d p<|Z a;rwa[H6]at this
def aai a d p:Cg p (ps<|aN<|gx a d p) (ps a-ps d):=by
 rw[qJ];refine Cg.of λi=>?_
 rw[PS.lO,cH,cH,cH,gx,aK,jh];by_cases h:i<max (Z a) (Z d)
 .rw[k6 h];show((E a i 0+p-E d i 0)%p)%p=_;rw[mP,(O:E a i 0+p-E d i 0=E a i 0-E d i 0+p),Int.add_emod_right]
 .rw[iX b8,fp a O,fp d O];rfl
def ER{p:G}{A:PS}:∀{m:Y},Dl p m A->Cg p A 0\/∃d,d<m/\A d%p≠0/\Dl p (d+1) A
 |0,a=> .inl<|alH a
 |m+1,a=>by
  by_cases f:A m%p=0
  .rcases ER (m:=m) (A:=A) (p:=p) (λi n=>by
    by_cases k:i=m
    .rw[k];exact f
    .exact a i O)with g|⟨d,g,h2,l⟩
   .exact .inl g
   .exact .inr ⟨d,O,h2,l⟩
  .exact .inr ⟨m,O,f,a⟩
def BS{p}(f:dO p){A B}{d a}(g:Dl p (d+1) A)(i:Dl p (a+1) B)(k:A d%p≠0)(l:B a%p≠0):(A*B) (d+a)%(p:G)≠0:=by rw[g.top i];exact f.nW k l
def alT{p}(g:dO p){a B}{m n}(i:Dl p m a)(k:Dl p (n+1) B)(l:B n%p≠0)(o:Dl p n (a*B)):Cg p a 0:=by
 rcases ER i with f|⟨d,f,h2,s⟩
 .exact f
 .exact absurd (o (d+n) O)<|BS g s k h2 l
def alU{p}(s:dO p){Q a d f B}{m n}(t:Dl p (n+1) B)(u:B n%p≠0)(v:Dl p m Q)(g:Dl p m d)(x:Dl p n a)(i:Dl p n f)(y:Cg p (Q*B+a) (d*B+f)):Cg p Q d/\Cg p a f:=by
 have e:Cg p ((Q-d)*B) (f-a):=by
  have A:(Q-d)*B=(Q*B+a)+ -(d*B+a):=by rw[PS.sub_def,PS.add_mul,PS.neg_mul,PS.neg_add];have:Q*B+a+(-(d*B)+ -a)=Q*B+ -(d*B)+(a+ -a):=fG;rw[this,PS.add_neg,PS.add_zero]
  have C:f-a=(d*B+f)+ -(d*B+a):=by rw[PS.sub_def,PS.neg_add];have:d*B+f+(-(d*B)+ -a)=d*B+ -(d*B)+(f+ -a):=fG;rw[this,PS.add_neg,PS.zero_add]
  rw[A,C];exact y.EJ _
 have o:=alT s (v.sub g) t u<|(i.sub x).cg e.symm;have k:Cg p Q d:=by
  have:=o.EJ d;have l:Q-d+d=Q:=by rw[PS.sub_def,PS.add_assoc,PS.ZY,PS.add_zero]
  rwa[l,PS.zero_add]at this
 refine⟨k,?_⟩;have H:Cg p (f-a) 0:=by have:=o.BM B;rw[PS.zero_mul]at this;exact e.symm.trans this
 have:=H.EJ a;have l:f-a+a=f:=by rw[PS.sub_def,PS.add_assoc,PS.ZY,PS.add_zero]
 rw[l,PS.zero_add]at this;exact this.symm
def alV{p}(f:dO p){A B}{m n}(o:Dl p m A)(s:Dl p n B)(g:Cg p (A*B) 1):Dl p 1 A:=by
 have a:¬(1:G)%(p:G)=0:=by have:=f.1;rw[gX D O];decide
 have i:¬Cg p (A*B) 0:=λe=>a (by have:=(e.symm.trans g).at 0;rw[PS.mO,gZ]at this;exact this.symm)
 rcases ER o with t|⟨d,_,h2,k⟩
 .exact absurd (by have:=t.BM B;rwa[PS.zero_mul]at this) i
 .rcases ER s with u|⟨e,_,v,x⟩
  .exact absurd (by have:=u.H9 A;rwa[PS.mul_zero]at this) i
  .have l:=BS f k x h2 v;rw[g.at (d+e)]at l;by_cases y:d=0
   .subst y;exact k
   .exact absurd (Z2 (p:G) (d+e) O) l
def aaj(d:V G)(p f:G)(i:Y)(g:V G):∀a,i+a<=Z g->Cg p (ps<|uy d p f i a g) (ps g-PS.K f*PS.X i*ps (c a d))
 |0,_=>by rw[uy,Im,PS.mul_zero,PS.sub_def,PS.neg_zero,PS.add_zero];exact Cg.refl _ _
 |a+1,m=>by
  have k:=aaj d p f i g a O;have e:ps g-PS.K f*PS.X i*ps (c (a+1) d)=(ps g-PS.K f*PS.X i*ps (c a d))+PS.K (-(f*E d a 0))*PS.X (i+a):=by
   rw[Il,PS.mul_add,PS.sub_def,PS.neg_add,PS.sub_def,<-PS.add_assoc];congr 1;have l:PS.K f*PS.X i*(PS.K (E d a 0)*PS.X a)=PS.K (f*E d a 0)*PS.X (i+a):=by rw[PS.zk,PS.MI];ac_rfl
   rw[l,PS.neg_eq,<-PS.mul_assoc,<-PS.zk];congr 2;omega
  rw[uy,Ik _ (by rw[ME];omega),e];refine k.add<|Cg.aaf ?_ _;rw[xF,mP,<-xF,show∀x:G,x+(p-f)*E d a 0-x= -(f*E d a 0)+p*E d a 0 by intro x;rw[Gv];omega,L9]
structure DvI(a b:V G)(p:G)(m n k:Y)(x:V G×V G):Prop where
 cg:Cg p (ps a) (ps x.1*ps b+ps x.2)
 dl:Dl p (n+(m-k)) (ps x.2)
 z:∀d,d<m-k->x.1.getD d 0=0
def aak{p:G}{a d:V G}{v:G}{n m:Y}(A:Z d=n+1)(s:Z a=n+m)(t:E d n 0*v%p=1%p):∀k,k<=m->DvI a d p m n k (ij a d p v m n k)
 |0,_=>by
  refine⟨?_,?_,λf u=>?_⟩
  .rw[ij,MV,PS.zero_mul,PS.zero_add];exact Cg.refl _ _
  .rw[ij,BO,<-s];exact k5 p a
  .rw[ij,aK,lM];split<;>rfl
 |k+1,M=>by
  have g:=aak A s t k O;have P:=MF a d p v m n k;obtain⟨i,Q⟩:∃i,m=i+(k+1):=⟨m-(k+1),O⟩;have B:m-(k+1)=i:=O;rw[ij,B];generalize hx:ij a d p v m n k=x at*;generalize hc:E x.2 (i+n) 0*v%p=c;have l:=aaj d p c i x.2 (Z d) O;rw[fR]at l;have C:E x.1 i 0=0:=g.z i O;have H:ps (x.1.set i c)=ps x.1+PS.K c*PS.X i:=by rw[Ik c O,C,Bv]
  refine⟨?_,?_,λf u=>?_⟩
  .simp only;rw[H];have o:ps x.1*ps d+ps x.2=(ps x.1+PS.K c*PS.X i)*ps d+(ps x.2-PS.K c*PS.X i*ps d):=by rw[PS.add_mul,PS.sub_def];have:ps x.1*ps d+PS.K c*PS.X i*ps d+(ps x.2+ -(PS.K c*PS.X i*ps d))=ps x.1*ps d+ps x.2+(PS.K c*PS.X i*ps d+ -(PS.K c*PS.X i*ps d)):=fG;rw[this,PS.add_neg,PS.add_zero]
   exact(g.cg.trans<|Cg.of_eq o).trans<|l.symm.Z0 _
  .simp only;refine Dl.cg (λf u=>?_) l.symm;rw[PS.lO,PS.mul_assoc,PS.fa,PS.nt];by_cases e:f=n+i
   .subst e;rw[b O,(O:n+i-i=n),cH,cH,<-hc,K9 i n];generalize E x.2 (n+i) 0=y;rw[xF,qG,mP,<-qG,jl,eX v,qG,t,<-qG,ns,Int.sub_self,gZ]
   .have o:=g.dl f O;have L:=k5 p d (f-i) O;rw[b O,xF,o,qG,L,gY,gZ];rfl
  .simp only;rw[uk _ _ _ _ O];split
   .omega
   .exact g.z f O
def ES{p}(a:dO p)(d:p<=2147483648){x:G}(f:0<=x)(k:x<p)(l:x≠0):x*((jg (af x) (af ((p:Y):G)):Y):G)%(p:G)=1:=by
 obtain⟨y,rfl⟩:=BF f;have m:=a.1;rw[bY,bY,Z7 y p O O];have g:¬p∣y:=λi=>by have:=vZ O i;omega
 have n:=a.inv g;rw[<-fD];omega
def alX{p}{a}{n}(g:rp p a)(k:Dl p n (ps a)):ps (c n a)=ps a:=PS.ext λi=>by
 rw[cH,cH,Ij];split
 .rfl
 .have d:=k i O;have f:=g i;rw[cH,gX f.1 f.2]at d;exact d.symm
def mi{p}(t:dO p)(g:p<=2147483648){a d}(u:rp p a)(x:bA p d)(l:d≠[]):
  Cg p (ps a) (ps (aS a d p).1*ps d+ps (aS a d p).2)/\rp p (aS a d p).1/\rp p (aS a d p).2/\(aS a d p).2.length<=Z d-1/\(bA p a->bA p (aS a d p).2)/\(aS a d p).1.length=Z a-(Z d-1):=by
 have L:=t.1
 have f:(0:G)<(p:G):=O
 obtain⟨n,o⟩:∃n,Z d=n+1:=⟨Z d-1,by have:=bQ.2 l;omega⟩
 rw[aS,o,eK]
 by_cases h:Z a<=n
 .rw[b h];refine⟨?_,(rV f).1,u,h,λC=>C,?_⟩
  .rw[BR,PS.zero_mul,PS.zero_add];exact Cg.refl _ _
  .show 0=_;omega
 .rw[w h];obtain⟨m,y⟩:∃m,Z a=n+m:=⟨Z a-n,O⟩;rw[y,zh];have i:=x.1 n;have s:E d n 0≠0:=by have:=x.top o;exact λe=>this EU
  have H:=ES t g i.1 i.2 s;generalize ((jg (E d n 0).toNat (af ((p:Y):G)):Y):G)=v at*;have A:=aak (p:=p) (v:=v) o y (by rw[H,gX D O]) m<|aO _;have K:=MF a d p v m n m;have k:=Sj d v m n f u m;have B:=A.dl;rw[lH,jy]at B;refine⟨?_,k.1,aad f<|Sy f k.2 n,?_,λ_=>k7 f<|Sy f k.2 n,K.1⟩
  .simp only;rw[qJ,alX k.2 B];exact A.cg
  .simp only;have:=py<|(ij a d p v m n m).2.take n;rw[eL]at this;omega
def pC(p:G):Y->V G->V G->V G
 |0,f,_=>f
 |k+1,f,g=>if g=[]then f else pC p k g (aS f g p).2
def lR(p:G)(a:V G):V G:=if a=[]then[]else cT a [((jg (E a (Z a-1) 0).toNat (af p):Y):G)] p
def gy(p:G)(f g:V G):V G:=lR p<|pC p (Z g+1) f g
def bp(p:G)(A:PS):Prop:=∃n,Dl p n A
def bp.add{p}{A B}(a:bp p A)(k:bp p B):bp p (A+B):=by let ⟨n,a⟩:=a;let ⟨m,k⟩:=k;exact⟨max n m,(a.le O).add<|k.le O⟩
def bp.neg{p}{A}(a:bp p A):bp p (-A):=by let ⟨n,a⟩:=a;exact⟨n,a.neg⟩
def bp.sub{p}{A B}(a:bp p A)(k:bp p B):bp p (A-B):=by rw[PS.sub_def];exact a.add k.neg
def bp.mul{p}{A B}(a:bp p A)(k:bp p B):bp p (A*B):=by let ⟨n,a⟩:=a;let ⟨m,k⟩:=k;exact⟨n+m,a.mul' k⟩
def bp.ps p a:bp p (ps a):=⟨_,k5 p a⟩
def bp.K p a:bp p (PS.K a):=⟨_,So p a⟩
def bp.zero p:bp p 0:=⟨0,alJ p 0⟩
def bp.one p:bp p 1:=⟨1,Z2 p⟩
def xG(p:G)(A B:PS):Prop:=∃U V,bp p U/\bp p V/\Cg p (U*A+V*B) 1
def xG.step{p}{A B Q a}(f:xG p A B)(g:bp p Q)(i:Cg p A (Q*B+a)):xG p B a:=by
 let ⟨U,V,d,h2,k⟩:=f;refine⟨U*Q+V,U,(d.mul g).add h2,d,?_⟩;have:(U*Q+V)*B+U*a=U*(Q*B+a)+V*B:=by simp only[PS.mul_add,PS.add_mul];ac_rfl
 rw[this];exact((i.symm.H9 U).EJ _).trans k
def xG.alY{p}{A B Q a}(d:xG p B a)(f:bp p Q)(g:Cg p A (Q*B+a)):xG p A B:=by
 let ⟨U,V,i,h2,k⟩:=d;refine⟨V,U-V*Q,h2,i.sub<|h2.mul f,?_⟩;have l:V*(Q*B+a)+(U-V*Q)*B=U*B+V*a:=by rw[PS.mul_add,PS.sub_def,PS.add_mul,PS.neg_mul];have:V*(Q*B)+V*a+(U*B+ -(V*Q*B))=(U*B+V*a)+(V*Q*B+ -(V*Q*B)):=fG;rw[this,PS.add_neg,PS.add_zero]
 exact((g.H9 V).EJ _).trans<|(Cg.of_eq l).trans k
def Sz{p:Y}(o:dO p)(a:p<=2147483648):∀(k:Y)(f g:V G),bA p f->bA p g->Z g<k->bA p (pC p k f g)/\(xG p (ps f) (ps g)↔Z (pC p k f g)=1)/\Z (pC p k f g)<=max (Z f) (Z g)
 |0,_,_,_,_,s=>by omega
 |k+1,f,g,l,hg,s=>by
  rw[pC];have H:=o.1;split
  .rename_i e;subst e;refine⟨l,⟨λd=>?_,λy=>?_⟩,O⟩
   .let ⟨U,C,t,L,d⟩:=d;rw[BR,PS.mul_zero,PS.add_zero,PS.mul_comm]at d;let ⟨m,t⟩:=t;have v:=l.len<|alV o (k5 p f) t d;by_cases e:Z f=0
    .exfalso;have:=eT e;subst this;rw[BR,PS.zero_mul]at d;have:=d.at 0;rw[PS.mO,gZ]at this;have u:(1:G)%(p:G)=1:=gX D O;have x:(0:G)=1%(p:G):=this;omega
    .omega
   .have v:=l.top (n:=0) O;have u:=l.1 0;have x:E f 0 0≠0:=λe=>v EU
    have A:=ES o a u.1 u.2 x;refine⟨PS.K ((jg (E f 0 0).toNat (af ((p:Y):G)):Y):G),0,bp.K _ _,bp.zero _,?_⟩;rw[PS.zero_mul,PS.add_zero];have B:ps f=PS.K (E f 0 0):=PS.ext λi=>by
     unfold PS.K;split
     .rename_i e;subst e;rfl
     .exact fp f O
    rw[B,<-PS.zk,PS.H8,eX];exact Cg.K (by rw[A,gX D O])
  .rename_i e;let ⟨d1,d2,d3,d4,d5,d6⟩:=mi o a l.1 hg e;have y:=bQ.2 e;let ⟨i1,i2,i3⟩:=Sz o a k g (aS f g p).2 hg (d5 l) O;refine⟨i1,⟨λd=>i2.1<|d.step (bp.ps _ _) d1,λs=>(i2.2 s).alY (bp.ps _ _) d1⟩,O⟩
def SA{p}(o:dO p)(f:p<=2147483648){a}(s:bA p a)(t:a≠[]):bA p (lR p a)/\Z (lR p a)=Z a/\E (lR p a) (Z a-1) 0=1/\Cg p (ps<|lR p a) (ps a*PS.K ((jg (E a (Z a-1) 0).toNat (af ((p:Y):G)):Y):G))/\Cg p (ps a) (ps (lR p a)*PS.K (E a (Z a-1) 0)):=by
 have L:=o.1;obtain⟨n,u⟩:∃n,Z a=n+1:=⟨Z a-1,by have:=bQ.2 t;omega⟩;have x:=s.1 n;have k:E a n 0≠0:=λe=>s.top u EU
 have y:=ES o f x.1 x.2 k;rw[lR,w t,u,eK];generalize ((jg (E a n 0).toNat (af ((p:Y):G)):Y):G)=v at*;have l:ps [v]=PS.K v:=PS.ext λi=>by
  cases i with
  |zero=>rfl
  |succ i=>rfl
 have g:=EP a [v] p;rw[l]at g;have A:=nv (O:(0:G)<p) a [v];have d:(ps<|cT a [v] p) n%(p:G)=1:=by rw[g.at n,PS.mul_comm,PS.fa,eX,cH];exact y
 have C:n<Z (cT a [v] p):=by
  by_cases e:n<Z (cT a [v] p)
  .exact e
  .rw[cH,fp _ O]at d;simp at d
 have m:=v5 a [v] p;have H:Z (cT a [v] p)=n+1:=by simp only[ik,nb]at m;omega
 refine⟨A,H,?_,g,?_⟩
 .have B:=A.1 n;rw[cH,gX B.1 B.2]at d;exact d
 .refine Cg.symm<|(g.BM _).trans ?_;rw[PS.mul_assoc,<-PS.zk,eX v];have:Cg p (ps a*PS.K (E a n 0*v)) (ps a*PS.K 1):=(Cg.K<|by rw[y,gX D O]).H9 _;rw[<-PS.H8,PS.mul_one]at this;exact this
def alZ{p}(d:dO p)(a:p<=2147483648){f g}(i:bA p f)(k:bA p g):Z (gy p f g)=1↔xG p (ps f) (ps g):=by
 let ⟨l,h2,m⟩:=Sz d a (Z g+1) f g i k<|dK _;rw[h2,gy];by_cases e:pC p (Z g+1) f g=[]
 .rw[e,lR,b J]
 .rw[(SA d a l e).2.1]
def al0 k l:ps (bc k 0++l)=PS.X k*ps l:=PS.ext λi=>by
 rw[PS.nt,cH,cH,aK,SB,fo];by_cases h:i<k
 .rw[b h,w O,lM,b h];rfl
 .rw[w h,b O,<-aK]
def al1{p}(a:0<p) k{l}(d:rp p l):rp p (bc k 0++l):=λi=>by
 rw[aK,SB,fo];split
 .rw[lM];split<;>exact⟨hO _,a⟩
 .have:=d<|i-k;rwa[aK]at this
def aal x:ps [x]=PS.K x:=PS.ext λi=>by
 cases i with
 |zero=>rfl
 |succ i=>rfl
def EV{p x}(a:0<=x)(d:x<p):rp p [x]:=λi=>by
 cases i with
 |zero=>exact⟨a,d⟩
 |succ i=>exact⟨hO _,(O:(0:G)<p)⟩
structure Io(p:G)(a b:V G)(M:Y)(x:V G×V G):Prop where
 c:bA p x.1
 l:x.1.length<=a.length
 ql:x.2.length=M
 qr:rp p x.2
 cg:Cg p (ps a) (ps x.2*ps b+ps x.1)
 z:∀d,d+b.length<=x.1.length->x.2.getD d 0=0
def Io.next{p}(hp:dO p)(t:p<=2147483648){a d}{M}{g i}(m:Io p a d M (g,i))(hb:bA p d)(H:d≠[])(hl:Z d<=Z g)(hM:Z a-Z d<M)
 {f}(L:f=E g (Z g-1) 0*((jg (E d (Z d-1) 0).toNat (af ((p:Y):G)):Y):G)%(p:G)):
  Io p a d M (aN<|gx g (bc (Z g-Z d) 0++cT [f] d p) p,i.set (Z g-Z d) f)/\Z (aN<|gx g (bc (Z g-Z d) 0++cT [f] d p) p)<Z g:=by
 have V:=hp.1
 have o:(0:G)<(p:G):=O
 have F:=bQ.2 H
 obtain⟨n,P⟩:∃n,Z d=n+1:=⟨Z d-1,O⟩
 obtain⟨k,c⟩:∃k,Z g=k+(n+1):=⟨Z g-(n+1),O⟩
 rw[c,P,eK,(O:k+(n+1)-1=n+k)]at L
 rw[c,P,eK]
 have u:=hb.1 n
 have Q:E d n 0≠0:=λe=>hb.top P EU
 have I:=ES hp t u.1 u.2 Q
 generalize ((jg (E d n 0).toNat (af ((p:Y):G)):Y):G)=v at*
 have x:0<=f/\f<p:=by rw[L];exact⟨iN _ O,iO _ o⟩
 generalize J:bc k 0++cT [f] d p=S
 have T:Cg p (ps S) (PS.K f*PS.X k*ps d):=by rw[<-J,al0];have s:=EP [f] d p;rw[aal]at s;have U:=s.H9<|PS.X k;have e:PS.X k*(PS.K f*ps d)=PS.K f*PS.X k*ps d:=fG;rwa[e]at U
 have A:Cg p (ps<|aN<|gx g S p) (ps g-PS.K f*PS.X k*ps d):=(aai g S p).trans<|(Cg.refl _ _).sub T
 have B:bA p (aN<|gx g S p):=k7 o<|BQ o g S
 have w:Z (aN<|gx g S p)<=n+k:=by
  refine B.len<|Dl.cg (λj D=>?_) A.symm;rw[PS.lO,PS.mul_assoc,PS.fa,PS.nt];by_cases e:j=n+k
  .subst e;rw[b O,(O:n+k-k=n),cH,cH,L];generalize E g (n+k) 0=y;rw[xF,qG,mP,<-qG,jl,eX v,qG,I,ns,mP,Int.sub_self,gZ]
  .have s:=k5 p g j (O:Z g<=j);have U:=k5 p d (j-k) O;rw[b O,xF,s,qG,U,gY,gZ];rfl
 have C:k<Z i:=by have N:Z g<=Z a:=m.l;have h6:Z i=M:=m.ql;omega
 have W:E i k 0=0:=m.z k (O:k+Z d<=Z g)
 refine⟨⟨B,?_,?_,MB m.qr _ x.1 x.2,?_,λj D=>?_⟩,O⟩
 .have N:Z g<=Z a:=m.l;show Z (aN<|gx g S p)<=Z a;omega
 .show(i.set k f).length=M;rw[ru];exact m.ql
 .simp only;rw[Ik f C,W,Bv];have R:ps i*ps d+ps g=(ps i+PS.K f*PS.X k)*ps d+(ps g-PS.K f*PS.X k*ps d):=by rw[PS.add_mul,PS.sub_def];have:ps i*ps d+PS.K f*PS.X k*ps d+(ps g+ -(PS.K f*PS.X k*ps d))=ps i*ps d+ps g+(PS.K f*PS.X k*ps d+ -(PS.K f*PS.X k*ps d)):=fG;rw[this,PS.add_neg,PS.add_zero]
  have s:Cg p (ps a) (ps i*ps d+ps g):=m.cg;exact(s.trans<|Cg.of_eq R).trans<|A.symm.Z0 _
 .simp only at D⊢;rw[uk _ _ _ _ C];split
  .omega
  .exact m.z j (O:j+Z d<=Z g)
def zo p(hp:dO p)(u:p<=2147483648) a d(la:Z a<=500)(lb:Z d<=500)(H:bA p a)(L:bA p d)(A:d≠[]):
  r q 207 [I aw a,I aw d,cU p] (.a [.S aw (aN (aS a d p).1),.S aw (aS a d p).2]):=by
 refine aI Tryz.func207 ?_
 have h2:=hp.1
 have g:(0:G)<(p:G):=O
 have hpz:(p:G)≠0:=O
 have hl0:=bQ.2 A
 have Q:=xE a p O g O<|λi=>(H.1 i).1
 rw[Ih H.1,v3 H.2]at Q
 refine N J<|bt J J Q J<|F ?_
 obtain⟨M,hM⟩:∃M:Y,max ((Z a:G)-(Z d:G)+1) 0=(M:G):=⟨af<|max ((Z a:G)-(Z d:G)+1) 0,O⟩
 refine rm aw M J J J J J J (mI .u64) (by rw[b J];split<;>omega) ?_ ?_<|z J ?_
 .show _*8<=_;omega
 .show _*1<=_;omega
 have a2:af ((Z d:G)-1)=Z d-1:=O
 have D:=L.1<|Z d-1
 have MW:E d (Z d-1) 0≠0:=λe=>L.top (n:=Z d-1) O EU
 have T:=Sx (E d (Z d-1) 0) p D MW O O
 have B:r q 248 [cU (E d (af<|(Z d:G)-1) 0),cU p] (.t [(ah,[.I .u64 (jg (E d (Z d-1) 0).toNat (af ((p:Y):G)):Y)]),(ah,[.I .i64 0])]):=by rw[a2];exact T
 refine F<|rc J J B<|z J (hp:=aF) ?_
 generalize hv:((jg (E d (Z d-1) 0).toNat (af ((p:Y):G)):Y):G)=v
 have hvb:0<=v/\v<p:=by have:=Sf (E d (Z d-1) 0).toNat (p-2) p O;rw[<-hv,jg,bY];omega
 have vV:Io p a d M (a,bc M 0):=by
  refine⟨H,aO _,fo,Sg g M,?_,λna _=>?_⟩
  .show Cg p (ps a) (ps (bc M 0)*ps d+ps a);rw[MV,PS.zero_mul,PS.zero_add];exact Cg.refl _ _
  .show E (bc M (0:G)) na 0=0;rw[aK,lM];split<;>rfl
 refine j<|au<|a8 (α:=V G×V G) (λx=>⟨[(1,I aw d),(2,cU p),(6,.c<|.P 0 0),(7,I aw x.1),(8,.c<|.X 2007000),(9,cU v)],[(0,.box 201 0 [.V (.slice none 0 0),.V<|.slice none 0 0]),(2007000,.vec 150 aw x.2)],4,[]⟩) (Io p a d M) (λx=>Z x.1) (a,bc M 0) vV (wk (bO J) ⟨bE J J,bR J,h⟩) ?_
 rintro⟨o,s⟩ K
 have hc:bA p o:=K.c
 have Ip:Z o<=Z a:=K.l
 have Ma:Z s=M:=K.ql
 refine j<|N J<|al J (λy=>?_)<|λy=>?_
 .have y:Z d<=Z o:=by have y:(Z o:G)>=(Z d:G):=aU y;omega
  generalize hf:E o (Z o-1) 0*v%(p:G)=f;let ⟨U,W⟩:=K.next hp u L A y O (f:=f) (by rw[hv];exact hf.symm);have w:0<=f/\f<p:=by rw[<-hf];exact⟨iN _ O,iO _ g⟩
  have hg:=hc.1<|Z o-1;have a3:af ((Z o:G)-1)=Z o-1:=O;obtain⟨k,hk⟩:∃k,Z o=k+Z d:=⟨Z o-Z d,O⟩;have ek:(Z o:G)-(Z d:G)=(k:G):=O;rw[(O:Z o-Z d=k)]at U W;refine aD<|au<|N J<|N J (hp:=aF) ?_;refine eP (st':=⟨[(1,I aw d),(2,cU p),(6,.c<|.P 0 0),(7,I aw o),(8,.c<|.X 2007000),(9,cU v),(11,R k),(12,cU f)],[(0,.box 201 0 [.V (.slice none 0 0),.V<|.slice none 0 0]),(2007000,.vec 150 aw s)],8,[]⟩) (wk ⟨sR J,sR J,sR J,sR J,sR J,sR J,sE J ?_,sE J ?_,h⟩<|xa J) ?_
  .exact je ek
  .refine bP ?_;rw[a3,<-hf];exact ZR _ v p hg hvb O
  refine N J (hp:=aF)<|F ?_;refine rm aw k J J J J J J (mI .u64) J ?_ ?_ ?_
  .show _*8<=_;omega
  .show _*1<=_;omega
  have EW:=uz [f] d p az O g O (EV w.1 w.2) L.1;have hpl:=v5 [f] d p;simp only[ik,nb]at hpl;refine rl aw [_] J J (rc J J EW<|ra J J J J J J J J J ?_ ?_<|z J ?_)
  .show(_+_+(_+_)/4+192)*8<=_;rw[fo];omega
  .show(_+_)*1<=_;rw[fo];omega
  refine cY 9007000 J J J ?_;have Bs:=Ii o (bc k 0++cT [f] d p) p O SC g O hc.1<|al1 g k (nv g _ _).1;refine cu<|rc J J Bs<|z J<|eE<|aT (aN<|gx o (bc k 0++cT [f] d p) p,s.set k f) U W<|wk (bO J) ⟨bR J,bE J ?_,h⟩;refine be (aG.vec 150 aw) ?_;rw[bY]
 .have y:Z o<Z d:=by have y:¬(Z o:G)>=(Z d:G):=a6 y;omega
  have C:rp p s:=K.qr;have hcg:Cg p (ps a) (ps s*ps d+ps o):=K.cg;let ⟨d1,d2,d3,d4,d5,d6⟩:=mi hp u H.1 L A;obtain⟨n,hn⟩:∃n,Z d=n+1:=⟨Z d-1,O⟩;let ⟨e1,e2⟩:=alU hp (m:=max (Z s) (aS a d p).1.length) (n:=n) (hn▸k5 p d) (L.top hn) ((k5 p s).le O) ((k5 p (aS a d p).1).le O) ((k5 p o).le O) ((k5 p (aS a d p).2).le O)<|hcg.symm.trans d1;have f2:o=(aS a d p).2:=MS hc (d5 H) e2;have f1:aN s=aN (aS a d p).1:=MS (k7 g C) (k7 g d2) (by rw[qJ,qJ];exact e1);have ht:=xE s p O g O<|λi=>(C i).1;rw[Ih C,f1]at ht;refine a7<|aL<|cY 2007000 J J J<|bt J J ht J<|bU J ?_;rw[f2];rfl
def te p(i:dO p)(f:p<=2147483648) a d(k:Z a<=500)(l:Z d<=500)(m:bA p a)(n:bA p d)(g:d≠[]):
  r q 200 [I aw a,I aw d,cU p] (I aw (aS a d p).2):=by
 refine aI Tryz.func200 ?_
 exact N J<|bt J J (zo p i f a d k l m n g) J<|cw J
def aam p(x:dO p)(f:p<=2147483648) a(H:Z a<=500)(m:bA p a):
  r q 201 [I aw a,cU p] (I aw<|lR p a):=by
 refine aI Tryz.func201 ?_
 have C:=x.1
 have g:(0:G)<(p:G):=O
 refine N J<|j<|N J<|al J (λh=>?_)<|λh=>aD ?_
 .have h:(Z a:G)=0:=eq_of_beq h;have o:a=[]:=eT O;refine N J<|bL<|cK<|ig cv J ?_;rw[lR,b o];exact bl.nil aw
 .have h:(Z a:G)≠0:=nV h;have o:a≠[]:=λe=>h sJ
  have A:af ((Z a:G)-1)=Z a-1:=O;have s:=m.1<|Z a-1;have u:E a (Z a-1) 0≠0:=λe=>m.top (n:=Z a-1) O EU
  have i:=Sx (E a (Z a-1) 0) p s u O O;have d:r q 248 [cU (E a (af<|(Z a:G)-1) 0),cU p] (.t [(ah,[.I .u64 (jg (E a (Z a-1) 0).toNat (af ((p:Y):G)):Y)]),(ah,[.I .i64 0])]):=by rw[A];exact i
  refine F<|rc J J d (hp:=aF)<|z J ?_;have y:=SA x f m o;generalize B:((jg (E a (Z a-1) 0).toNat (af ((p:Y):G)):Y):G)=v at*;have k:0<=v/\v<p:=by have:=Sf (E a (Z a-1) 0).toNat (p-2) p O;rw[<-B,jg,bY];omega
  have l:=uz [v] a p az O g O (EV k.1 k.2) m.1;have e:cT [v] a p=lR p a:=by refine MS (nv g _ _) y.1<|(EP [v] a p).trans ?_;rw[aal,PS.mul_comm];exact y.2.2.2.1.symm
  rw[e]at l;exact F<|rl aw [_] J J (rc J J l<|z J<|cw J)
def EX p(s:dO p)(d:p<=2147483648) a i(v:Z a<=500)(y:Z i<=500)(A:bA p a)(B:bA p i):
  r q 171 [I aw a,I aw i,cU p] (I aw<|gy p a i):=by
 refine aI Tryz.func171 ?_
 refine N J<|j<|au<|a8 (α:=Y×V G×V G) (λx=>⟨[(0,I aw x.2.1),(1,I aw x.2.2),(2,cU p)],[],1,[]⟩) (λx=>pC p x.1 x.2.1 x.2.2=pC p (Z i+1) a i/\Z x.2.2<x.1/\bA p x.2.1/\bA p x.2.2/\Z x.2.1<=500/\Z x.2.2<=500) (λx=>Z x.2.2) (Z i+1,a,i) ⟨J,dK _,A,B,v,y⟩ aM ?_
 rintro⟨k,f,g⟩ ⟨l,h2,n,o,t,u⟩
 simp only at l h2 n o t u
 cases k with
 |zero=>omega
 |succ k=>
 rw[pC]at l
 refine j<|N J<|al J (λh=>?_)<|λh=>?_
 .have m:g≠[]:=by have h:(Z g:G)>0:=aU h;intro e;rw[e]at h;simp at h
  rw[w m]at l;let ⟨d1,d2,d3,d4,d5,d6⟩:=mi s d n.1 o m;have C:=bQ.2 m;exact aD<|au<|bt J J (te p s d f g t u n o m) J<|N J<|rt J<|eE<|aT (k,g,(aS f g p).2) ⟨l,(O:(aS f g p).2.length<k),o,d5 n,u,(O:(aS f g p).2.length<=500)⟩ (O:(aS f g p).2.length<Z g) aM
 .have m:g=[]:=by have h:¬(Z g:G)>0:=a6 h;exact eT O
  rw[b m]at l;refine a7<|aL<|bt J J (aam p s d f t n) J<|bU J ?_;rw[gy,<-l]
def aH(n:Y)(a:G):Prop:=aC a<4294967296^n
def aH.sm{n}{a}(d:aH n a)(f:n<=1099511627776):Sm a:=by
 refine bm (AI (k:=n) ?_) f;have:((aC a:Y):G)<((4294967296^n:Y):G):=by have d:aC a<4294967296^n:=d;omega
 rwa[uv]at this
def aH.le{m n}{a}(d:aH m a)(k:m<=n):aH n a:=iI d<|eQ D k
def aH.mul{m n}{a d}(f:aH m a)(k:aH n d):aH (m+n) (a*d):=by unfold aH at*;rw[rQ,k4];exact My f k
def aH.add{n}{a d}(f:aH n a)(k:aH n d):aH (n+1) (a+d):=by unfold aH at*;have:=SD a d;rw[fO];omega
def aH.neg{n}{a}(d:aH n a):aH n (-a):=by unfold aH at*;rwa[Int.natAbs_neg]
def aH.sub{n}{a d}(f:aH n a)(k:aH n d):aH (n+1) (a-d):=by rw[R3];exact f.add k.neg
def aH.zero n:aH n 0:=by unfold aH;exact gQ D
def aH.emod{n}{a m}(d:0<m)(f:aH n m):aH n (a%m):=by have g:=iN a (O:m≠0);have i:=iO a d;unfold aH at*;omega
def aH.one{a}(d:aC a<4294967296):aH 1 a:=by unfold aH;rwa[Nat.pow_one]
def aH.pow{n:Y}{a:G}(d:aH n a):∀k,aH (n*k+1) (a^k)
 |0=>by unfold aH;simp
 |k+1=>by rw[fK];exact((aH.pow d k).mul d).le (by rw[Nat.mul_succ];omega)
def aan a d u v(l:∀i,aH u (E a i 0))(m:∀i,aH v (E d i 0)) n:∀k,k<=4294967296->aH (u+v+1) (kz (λi=>E a i 0) (λi=>E d i 0) n k):=by
 have f:∀k,aC (kz (λi=>E a i 0) (λi=>E d i 0) n k)<=k*4294967296^(u+v):=by
  intro k;induction k with
  |zero=>simp[kz]
  |succ k p=>
   have h:=(l k).mul<|m<|n-k
   unfold aH at h
   have o:=SD (kz (λi=>E a i 0) (λi=>E d i 0) n k)<|E a k 0*E d (n-k) 0
   rw[gO,jn]
   simp only[kz]
   omega
 intro k t;by_cases s:k=4294967296
 .subst s;unfold aH;have g:0<4294967296^(u+v):=gQ D;have:∀k,aC (kz (λi=>E a i 0) (λi=>E d i 0) n k)<4294967296^(u+v)\/aC (kz (λi=>E a i 0) (λi=>E d i 0) n k)<k*4294967296^(u+v):=by
   intro k;induction k with
   |zero=>left;simp[kz];exact g
   |succ k p=>
    right
    have h:=(l k).mul<|m<|n-k
    unfold aH at h
    have o:=SD (kz (λi=>E a i 0) (λi=>E d i 0) n k)<|E a k 0*E d (n-k) 0
    have x:=f k
    rw[gO,jn]
    simp only[kz]
    omega
  rcases this 4294967296 with h|h
  .exact iI h<|eQ D O
  .rwa[fO,gG]
 .have h:=f k;unfold aH;have g:0<4294967296^(u+v):=gQ D;have o:k*4294967296^(u+v)<4294967296*4294967296^(u+v):=R9 O g;rw[fO,gG<|4294967296^(u+v)];omega
def aao a d u v(x:Z a<=1000)(y:Z d<=1000)(t:u+v<=100000)(g:∀i,aH u (E a i 0))(l:∀i,aH v (E d i 0)):r q 212 [I .z a,I .z d] (I .z<|aN<|lN a d):=by
 refine aI Tryz.func212 ?_;refine N J<|F<|fT .z [] J J (z J<|j<|N J ?_);generalize hA:(λi=>E a i 0)=A;generalize m:(λi=>E d i 0)=B;refine au<|a8 (α:=Y) (λn=>⟨[(0,I .z a),(1,I .z d),(5,.c<|.X 1000000),(6,R n)],[(1000000,.vec 42 .z<|(bX n).map<|conv A B)],3,[]⟩) (λn=>n<=Z a+Z d-1) (λn=>Z a+Z d-n) 0 (aY _) aM ?_;intro n o;refine j<|N J ?_;refine al J (λh=>?_)<|λh=>?_
 .have h:n+1<Z a+Z d:=by have h:(n:G)+1<Z a+Z d:=et;omega
  refine aD<|j<|au<|bt J J (jq 0 D D) J<|j<|N J ?_;refine au<|a8 (α:=Y) (λk=>⟨[(0,I .z a),(1,I .z d),(5,.c<|.X 1000000),(6,R n),(7,.c<|.P 4001000 0),(8,R k)],[(4001000,.box 42 0<|av .z<|kz A B n k),(1000000,.vec 42 .z<|(bX n).map<|conv A B)],6,[]⟩) (λk=>k<=n+1) (λk=>n+1-k) 0 (aY _) (wk (bO J) ⟨bE J J,bR J,aX⟩) ?_;intro k p;refine j<|N J ?_;refine al J (λh2=>?_)<|λh2=>?_
  .have h2:k<=n:=by have h2:(k:G)<=n:=qq;omega
   have s:=aan a d u v g l n k O;rw[hA,m]at s;refine aD<|j<|au<|cu ?_;refine rc J J (HY a k) ?_;refine rc J J (f:=256) (r:=aZ<|E d (n-k) 0) (by have:=HY d<|n-k;rw[(O:((n-k:Y):G)=(n:G)-(k:G))]at this;exact this) ?_;refine rc J J (kZ (E a k 0) (E d (n-k) 0) ((g k).sm O)<|(l<|n-k).sm O) ?_;refine rc J J (xq (kz A B n k) (E a k 0*E d (n-k) 0) (s.sm O)<|((g k).mul<|l<|n-k).sm O)<|z J ?_;refine bw<|rt J<|aT (k+1) O (O:n+1-(k+1)<n+1-k)<|wk ⟨sR J,sR J,sR J,sR J,sR J,sE J J,aX⟩ ⟨bE J ?_,bR J,aX⟩;have e:kz A B n (k+1)=kz A B n k+E a k 0*E d (n-k) 0:=by simp only[kz,<-hA,<-m]
   rw[e];rfl
  .have h2:¬k<=n:=by have h2:¬(k:G)<=n:=qq;omega
   have p:k=n+1:=O;subst p;refine a7<|aL ?_;refine cu<|rl .z [conv A B n] J J (ra J J J J J J J J J ?_ ?_<|z J ?_)
   .show(_+1+(_+1)/4+192)*32<=_;simp only[cy,mQ];omega
   .show(_+1)*2<=_;simp only[cy,mQ];omega
   refine bw<|rt J<|aT (n+1) O (O:Z a+Z d-(n+1)<Z a+Z d-n)<|Wk.trans (wk (st':=⟨[(0,I .z a),(1,I .z d),(5,.c<|.X 7003000),(6,R ((n+1:Y):G))],[(7003000,.vec 42 .z<|(bX<|n+1).map<|conv A B)],9,[]⟩) ⟨sR J,sR J,sR J,sE J ?_,aX⟩ ⟨bE J ?_,aX⟩)<|Wk.trans (fU 1000000 7003000 J J J) aM
   .rfl
   .rw[yx,fM];rfl
 .have h:¬n+1<Z a+Z d:=by have h:¬(n:G)+1<Z a+Z d:=et;omega
  have o:n=Z a+Z d-1:=O;refine a7<|aL<|cY 1000000 J J J<|bt J J (Md _) J<|bU J ?_;unfold lN;rw[hA,m,<-o]
def aap a(p:Y)(f:2<=p)(i:p<=2147483648)(g:Sm a):r q 202 [aZ a,cU p] (cU<|a%p):=by refine aI Tryz.func202 ?_;have d:=iN a (O:(p:G)≠0);have k:=iO a (O:(0:G)<p);refine N J<|F<|rc J J (jq p O O) (hp:=aF)<|rc J J (EC a p O g<|Sm.of O)<|z J ?_;refine bt J J (akV (a%p) d O) J ?_;refine N J<|bU J<|bP ?_;exact wrap_u64 _ d O
def MY p a:md p (md p a)=md p a:=by unfold md;rw[MR];exact SE λx _=>mP x p
def aaq a(p:Y)(s:Z a<=1000)(f:2<=p)(m:p<=2147483648)(n:∀i,Sm (E a i 0)):r q 172 [I .z a,cU p] (I aw<|aN<|md p a):=by
 refine aI Tryz.func172 ?_;have o:=xD p a;have g:=BP (O:(0:G)<(p:G)) a;have l:=xE (md p a) p O O O<|λi=>(g i).1;rw[MY]at l;refine N J<|F<|fT aw [] J J (z J<|j<|N J ?_);refine au<|a8 (α:=Y) (λi=>⟨[(0,I .z a),(1,cU p),(5,.c<|.X 1000000),(6,R i)],[(1000000,.vec 150 aw<|(md p a).take i)],3,[]⟩) (λi=>i<=Z a) (λi=>Z a-i) 0 (aY _) aM ?_;intro i t;have u:Z ((md p a).take i)=i:=b8;refine j<|N J<|al J (λd=>?_)<|λd=>?_
 .have d:i<Z a:=by have d:(i:G)<(Z a:G):=aU d;omega
  have k:r q 202 [.a (av .z<|E a (af<|(i:G)) 0),cU p] (cU<|E a i 0%p):=by rw[bY];exact aap (E a i 0) p f m<|n i
  refine aD<|j<|au<|cu<|rc J J k (hp:=aF) ?_;refine rl aw [_] J J (ra J J J J J J J J J ?_ ?_<|z J ?_)
  .show(_+1+(_+1)/4+192)*8<=_;omega
  .show(_+1)*1<=_;omega
  refine bw<|rt J<|aT (i+1) d nS<|Wk.trans (wk (st':=⟨[(0,I .z a),(1,cU p),(5,.c<|.X 4008000),(6,R ((i+1:Y):G))],[(4008000,.vec 150 aw<|(md p a).take<|i+1)],8,[]⟩) (bO J) ⟨bE J ?_,h⟩)<|Wk.trans (fU 1000000 4008000 J J J) aM;refine be (aG.vec 150 aw) ?_;rw[rU _ i O,Ig]
 .have d:i=Z a:=by have d:¬(i:G)<(Z a:G):=a6 d;omega
  subst d;rw[iY O];exact a7<|aL<|cY 1000000 J J J<|bt J J l J<|cw J
def al5{m}(a:Z (ao m)=1):(m:G)=E (ao m) 0 0:=by
 have:=eN m;rw[<-this];match hw:ao m,a with
 |[w],_=>show w+4294967296*0=w;omega
def EY a:r q 156 [aZ a] (cB<|decide<|a=1):=by
 refine aI Tryz.func156 ?_;refine N J<|F<|rg 6 J J (λh=>?_)<|λh=>?_
 .have f:0<=a:=by have h:(!cd a)=ae:=h;simpa[cd]using h
  refine rg 12 J J (λd=>?_)<|λd=>?_
  .have d:Z (ao<|aC a)=1:=by have d:(Z (ao<|aC a):G)=1:=eq_of_beq d;omega
   have g:Z (eG a)=1:=d;refine z J (bU J<|be cB ?_) (hp:=?_)
   .show((E (ao<|aC a) 0 0)==1)=decide (a=1);have:=al5 d;by_cases e:a=1
    .subst e;rfl
    .rw[nr e];exact beq_eq_false_iff_ne.2<|λi=>e O
   .simp only[Pr.an,Pr.h,num,gT,true_and,and_true];first|done|omega
  .refine z J<|bU J<|be cB ?_;rw[nr];intro e;subst e;cases d
 .have f:a<0:=by have h:(!cd a)=ah:=h;simpa[cd]using h
  refine rg 12 J J (λd=>by cases d)<|λd=>?_;refine z J<|bU J<|be cB ?_;rw[nr O]
def Iq x y(a:Sm x)(d:Sm y):r q 127 [I .z [x,y]] (aZ<|x*y):=by
 refine aI Tryz.func127 ?_;refine N J<|bt J J (R5 1 D D) J<|j<|N J ?_;refine au<|a8 (α:=Y) (λi=>⟨[(7,I .z [x,y]),(2,.c<|.P 0 0),(3,.c<|.P 1001000 0),(8,R 2),(9,R i)],[(0,.box 42 0 [.B ah,.V<|.slice none 0 0]),(1001000,.box 42 0<|av .z (if i=0 then 1 else if i=1 then x else x*y))],3,[]⟩) (λi=>i<=2) (λi=>2-i) 0 D (wk (bO J) ⟨bE J J,bE J J,aX⟩) ?_;intro i f;rcases(O:i=0\/i=1\/i=2)with e|e|e
 .subst e;refine N J<|j<|al J (λ_=>aD ?_)<|λh=>fE;refine j (au<|N J (au<|bt J J (EY x) J<|al J (λh=>cP ?_)<|λh=>?_) (hp:=aar))
  .have h:x=1:=aU h;subst h;exact eE<|bw<|rt J (hp:=aF)<|aT 1 D D<|wk (bO J) ⟨bE J J,bE J J,aX⟩
  .refine bt J J (EY 1) J<|al J (λh=>?_)<|λh=>fE;exact rt J<|eE<|bw<|rt J (hp:=aF)<|aT 1 D D<|wk (bO J) ⟨bE J J,bE J J,aX⟩
 .subst e;refine N J<|j<|al J (λ_=>aD ?_)<|λh=>fE;refine j (au<|N J (au<|bt J J (EY y) J<|al J (λh=>cP ?_)<|λh=>?_) (hp:=aar))
  .have h:y=1:=aU h;subst h;refine eE<|bw<|rt J (hp:=aF)<|aT 2 D D<|wk (bO J) ⟨bE J J,bE J ?_,aX⟩;show aG.box 42 0 (av .z x)=aG.box 42 0 (av .z<|x*1);rw[ns]
  .refine bt J J (EY x) J (al J (λh=>?_)<|λh=>?_)
   .have h:x=1:=aU h;subst h;refine rt J<|eE<|bw<|rt J (hp:=aF)<|aT 2 D D<|wk (bO J) ⟨bE J J,bE J ?_,aX⟩;show aG.box 42 0 (av .z y)=aG.box 42 0 (av .z<|1*y);rw[kL]
   .exact cu<|rc J J (ak2 x y a d)<|z J<|eE<|bw<|rt J (hp:=aF)<|aT 2 D D<|wk (bO J) ⟨bE J J,bE J J,aX⟩
 .subst e;refine N J<|j<|al J (λh=>fE)<|λ_=>?_;exact a7<|aL<|N J<|cw J
structure QS(k:Y)(r:e):Prop where
 n:aH k r.num
 d:aH k (r.den:G)
def QS.le{a k}{f}(g:QS a f)(i:a<=k):QS k f:=⟨g.n.le i,g.d.le i⟩
def MZ{a}:fB a<0↔a<0:=by unfold fB;split<;>(try split)<;>omega
def v7{a}:fB a=0↔a=0:=by unfold fB;split<;>(try split)<;>omega
def Ir{f}{n d}(g:f.num=n)(i:(f.den:G)=d):AV.a [C.B (cd n),C.S aq<|eG n,C.B<|cd d,C.S aq<|eG d]=aQ f:=by subst g i;rfl
def SF{n d}(a:0<d):(jI n d).num=n/((iu n d:Y):G)/\((jI n d).den:G)=d/((iu n d:Y):G):=by have:=L' n d O;rwa[w O]at this
def M1{n d}(a:0<d)(f:iu n d=1):(jI n d).num=n/\((jI n d).den:G)=d:=by have:=SF (n:=n) a;rwa[f,show(((1:Y):G))=1 from J,uo,uo]at this
def SG n d(i:0<d)(k:Sm n)(a:Sm d):r q 126 [aZ n,aZ d] (aQ<|jI n d):=by
 refine aI Tryz.func126 ?_;let ⟨p1,l⟩:=SF (n:=n) i;have m:iu n d≠0:=λo=>by have:=(RT.1 o).2;omega
 have f:Sm ((iu n d:Y):G):=bm (s'<|show aC (((iu n d:Y):G))<=aC d from Nat.gcd_le_right _ O) a;refine N J<|j<|bt J J (EY d) J<|al J (λh=>?_)<|λ_=>aD ?_
 .have h:d=1:=aU h;subst h;let ⟨c1,g⟩:=M1 (n:=n) D<|Int.gcd_one_right ..;exact N J<|bL<|cK<|eJ J<|Ir c1 g
 refine bt J J (alz n d k a) J<|j<|F<|rc J J (EY _)<|z J<|al J (λh=>?_)<|λ_=>aD ?_
 .have h:((iu n d:Y):G)=1:=aU h;let ⟨c1,g⟩:=M1 i<|Int.ofNat.inj h;exact N J<|bL<|cK<|eJ J<|Ir c1 g
 refine bt J J (ZG n _ O k f) J<|F<|rc J J (ZG d _ O a f)<|z J<|N J<|bU J<|Ir p1 l
def den_pos(a:e):0<(a.den:G):=by have:=a.den_nz;omega
def al6 a(d:Sm a.num):r q 71 [aQ a] (aQ<| -a):=by refine aI Tryz.func71 ?_;refine N J<|bt J J (R6 a.num d) J<|bU J<|Ir J J
def SH a:r q 137 [aQ a] (R<|fB a.num):=by refine aI Tryz.func137 ?_;exact N J<|bt J J (Zr a.num) J<|cw J
def al7 n:r q 123 [aZ n] (aQ (n:e)):=by refine aI Tryz.func123 ?_;exact N J<|bt J J (R5 1 D D) J<|bU J J
def SI n(a: -9223372036854775808<=n)(d:n<=9223372036854775807):r q 70 [R n] (aQ (n:e)):=by refine aI Tryz.func70 ?_;exact N J<|F<|rc J J (R5 n a d)<|rc J J (al7 n)<|z J<|cw J
def M2 a(f:a.num≠0)(g:Sm a.num)(i:Sm (a.den:G)):r q 115 [aQ a] (.t [(ae,av .q a⁻¹),(ah,[.I .i64 0])]):=by
 refine aI Tryz.func115 ?_;have d:iu (a.den:G) a.num=1:=by have:=a.reduced;rw[Int.gcd_comm];exact this
 refine N J<|j<|bt J J (Zr a.num) J<|au<|N J<|al J (λh=>?_)<|λh=>?_
 .exfalso;have h:fB a.num=0:=eq_of_beq h;exact f<|v7.1 h
 refine N J<|al J (λh=>?_)<|λh=>?_
 .have h:fB a.num= -1:=eq_of_beq h;have h:a.num<0:=MZ.1 O;have e:(a⁻¹).num= -(a.den:G)/\(((a⁻¹).den:Y):G)= -a.num:=by
   rw[aas];have:=L' (a.den:G) a.num f;rw[b h,d]at this;rw[this.1,this.2];constructor
   .rw[show-(((1:Y):G))= -1 from J,BB,uo]
   .rw[show-(((1:Y):G))= -1 from J,BB,uo]
  refine F<|rc J J (R6 (a.den:G) i)<|rc J J (R6 a.num g)<|z J<|bL ?_;repeat(first|refine cK ?_|refine kX ?_|refine lI ?_)
  refine eJ J ?_;show AV.t [(ae,[C.B (cd<| -(a.den:G)),C.S aq<|eG<| -(a.den:G),C.B<|cd<| -a.num,C.S aq<|eG<| -a.num]),(ah,[C.I .i64 0])]=_;rw[<-e.1,<-e.2];rfl
 .have h:¬fB a.num= -1:=nV h;have h:0<a.num:=by
   unfold fB at h;split at h
   .omega
   .omega
  have e:(a⁻¹).num=(a.den:G)/\(((a⁻¹).den:Y):G)=a.num:=by rw[aas];exact M1 h d
  refine cP<|bw ?_;refine N J<|bU J ?_;show AV.t [(ae,[C.B (cd (a.den:G)),C.S aq<|eG (a.den:G),C.B<|cd a.num,C.S aq<|eG a.num]),(ah,[C.I .i64 0])]=_;rw[<-e.1,<-e.2];rfl
def al8{k}a f(g:QS k a)(i:QS k f)(y:k<=500000000000):r q 77 [aQ a,aQ f] (aQ<|a+f):=by
 refine aI Tryz.func77 ?_;have s:=g.n.mul i.d;have t:=i.n.mul g.d;have u:=g.d.mul i.d;have v:=s.add t;have o:=g.n.sm O;have l:=g.d.sm O;have p:=i.n.sm O;have m:=i.d.sm O;have x:=De (den_pos a)<|den_pos f;have e:jI (a.num*(f.den:G)+f.num*(a.den:G)) ((a.den:G)*(f.den:G))=a+f:=by have A:=den_pos a;have B:=den_pos f;rw[<-al9 _ _ O O,pD,pD]
 rw[<-e];refine N J<|F<|rl .z [a.num,(f.den:G)] J J (rc J J (Iq _ _ o m)<|rl .z [f.num,(a.den:G)] J J (rc J J (Iq _ _ p l)<|rc J J (alc _ _ (s.sm O)<|t.sm O)<|z J ?_));exact F<|rl .z [(a.den:G),(f.den:G)] J J (rc J J (Iq _ _ l m)<|rc J J (SG _ _ x (v.sm O)<|u.sm O)<|z J<|cw J)
def aat{a f g d}(k:iu a f=1)(l:g∣a)(m:d∣f):iu g d=1:=by have i:((iu g d:Y):G)∣((iu a f:Y):G):=Int.dvd_coe_gcd (Is (Int.gcd_dvd_left ..) l)<|Is (RS ..) m;rw[k]at i;have:=Int.ofNat_dvd.1 i;exact Nat.dvd_one.1 this
def SJ{n d}(a:0<d):(jI n d).num∣n/\(((jI n d).den:Y):G)∣d:=by let ⟨f,h2⟩:=SF (n:=n) a;rw[f,h2];exact⟨⟨_,(al'<|Int.gcd_dvd_left ..).symm⟩,⟨_,(al'<|RS ..).symm⟩⟩
def aH.dvd{n}{a d}(g:aH n a)(f:d∣a)(i:a≠0):aH n d:=by have:=vZ O<|Ib.2 f;unfold aH at*;omega
def M3{k}{n d}(a:0<d)(f:aH k n)(g:aH k d):QS k (jI n d):=by
 let ⟨i,h2⟩:=SJ (n:=n) a;refine⟨?_,g.dvd h2 O⟩;by_cases e:n=0
 .subst e;rw[Rat.zero_divInt];exact aH.zero _
 .exact f.dvd i e
def QS.mul{k}{a f}(g:QS k a)(i:QS k f):QS (2*k) (a*f):=by
 have l:=den_pos a;have m:=den_pos f;have e:jI (a.num*f.num) ((a.den:G)*(f.den:G))=a*f:=by rw[<-EZ,pD,pD]
 rw[<-e];exact M3 (De l m) ((g.n.mul i.n).le O)<|(g.d.mul i.d).le O
def QS.neg{k}{a}(f:QS k a):QS k (-a):=⟨f.n.neg,f.d⟩
def aau{k}a f(g:QS k a)(i:QS k f)(W:k<=500000000000):r q 72 [aQ a,aQ f] (aQ<|a*f):=by
 refine aI Tryz.func72 ?_;have o:=g.n.sm O;have p:=g.d.sm O;have s:=i.n.sm O;have t:=i.d.sm O;have y:=M3 (n:=a.num) (den_pos f) g.n i.d;have A:=M3 (n:=f.num) (den_pos a) i.n g.d;let ⟨l1,l2⟩:=SJ (n:=a.num)<|den_pos f;let ⟨r1,B⟩:=SJ (n:=f.num)<|den_pos a;have u:=SG a.num (f.den:G) (den_pos f) o t;have v:=SG f.num (a.den:G) (den_pos a) s p;have e:jI a.num (f.den:G)*jI f.num (a.den:G)=a*f:=by rw[EZ,eX (f.den:G),<-EZ,pD,pD]
 have C:iu a.num (a.den:G)=1:=a.reduced;have H:iu f.num (f.den:G)=1:=f.reduced;generalize jI a.num (f.den:G)=L at*;generalize jI f.num (a.den:G)=R at*;have x:iu (L.num*R.num) ((L.den:G)*(R.den:G))=1:=by have l:iu L.num (L.den:G)=1:=L.reduced;have m:iu R.num (R.den:G)=1:=R.reduced;have K:=aat C l1 B;have M:=aat H r1 l2;have P:SK (aC L.num) L.den:=l;have Q:SK (aC R.num) R.den:=m;have T:SK (aC L.num) R.den:=K;have U:SK (aC R.num) L.den:=M;show Nat.gcd (aC<|L.num*R.num) (aC<|(L.den:G)*(R.den:G))=1;rw[rQ,rQ];exact Nat.Coprime.mul_left (ama P T)<|ama U Q
 let ⟨l,m⟩:=M1 (De (den_pos L)<|den_pos R) x;rw[<-EZ,pD,pD,e]at l m;refine N J<|bt J J u J<|F<|rc J J v<|z J ?_;refine F<|rl .z [L.num,R.num] J J (rc J J (Iq _ _ (y.n.sm O)<|A.n.sm O)<|rl .z [(L.den:G),(R.den:G)] J J (rc J J (Iq _ _ (y.d.sm O)<|A.d.sm O)<|z J<|bU J<|Ir l m))
def nX(a d:e):G:=if a<d then-1 else if d<a then 1 else 0
def M4 n g(d:g≠0)(f:Sm n)(a:Sm g):r q 147 [aZ n,aZ g] (aZ<|n/g):=by refine aI Tryz.func147 ?_;refine N J<|bt J J (EC n g d f a) J<|N J<|bU J ?_;rfl
def Sm.gcd{n d}(i:d≠0)(a:Sm d):Sm ((iu n d:Y):G):=by have f:iu n d<=aC d:=Nat.gcd_le_right _ O;have g:Z (ao<|aC<|((iu n d:Y):G))<=Z (ao<|aC d):=s' (by rw[px];exact f);exact bm g a
def Sm.ng{a}(d:Sm a):Sm (-a):=by
 have e:eG (-a)=eG a:=by unfold eG;rw[Int.natAbs_neg]
 unfold Sm at*;rw[e];exact d
def M5 n d(i:d≠0)(k:Sm n)(a:Sm d):r q 92 [aZ n,aZ d] (aQ<|jI n d):=by
 refine aI Tryz.func92 ?_;have l:iu n d≠0:=λm=>i (RT.1 m).2
 let ⟨p1,g⟩:=L' n d i;have f:Sm ((iu n d:Y):G):=Sm.gcd i a;refine N J<|bt J J (Mc n d k a) J<|j<|F<|rc J J (By d)<|z J ?_;refine al J (λh=>?_)<|λh=>?_
 .have h:d<0:=by
   have h:fB d<0:=et;unfold fB at h;split at h
   .assumption
   ·(try split at h)<;>omega
  rw[b h]at p1 g;refine cu<|rc J J (Y7 _)<|z J<|aL<|F ?_;refine rc J J (M4 n _ O k<|Sm.ng f)<|rc J J (M4 d _ O a<|Sm.ng f)<|z J<|bU J ?_;unfold aQ;simp only[av,p1,g];rfl
 .have h:¬d<0:=by
   have h:¬fB d<0:=et;unfold fB at h;split at h
   .omega
   .assumption
  rw[w h]at p1 g;refine aD<|F ?_;refine rc J J (M4 n _ O k f)<|rc J J (M4 d _ O a f)<|z J<|bU J ?_;unfold aQ;simp only[av,p1,g];rfl
def SL n d(f:d≠0)(g:Sm n)(a:Sm d):r q 134 [aZ n,aZ d] (.t [(ae,av .q<|jI n d),(ah,[.I .i64 0])]):=by
 refine aI Tryz.func134 ?_;refine N J<|j<|bt J J (By d) J ?_;refine al J (λh=>?_)<|λh=>?_
 .exfalso;have h:fB d=0:=et;unfold fB at h;split at h
  .omega
  ·(try split at h)<;>omega
 .refine aD<|bt J J (M5 n d f g a) J<|bU J ?_;rfl
def SM{k}a f(g:QS k a)(i:QS k f)(l:k<=500000000000):r q 41 [aQ a,aQ f] (aQ<|a*f):=by
 refine aI Tryz.func41 ?_;have m:=De (den_pos a)<|den_pos f;have e:jI (a.num*f.num) ((a.den:G)*(f.den:G))=a*f:=by rw[<-EZ,pD,pD]
 rw[<-e];refine N J<|F<|rc J J (kZ _ _ (g.n.sm O)<|i.n.sm O)<|rc J J (kZ _ _ (g.d.sm O)<|i.d.sm O)<|rc J J (M5 _ _ O ((g.n.mul i.n).sm O)<|(g.d.mul i.d).sm O)<|z J<|bU J ?_;rfl
def amb{k}a f(g:QS k a)(i:QS k f)(s:k<=500000000000):r q 42 [aQ a,aQ f] (aQ<|a+f):=by
 refine aI Tryz.func42 ?_;have l:=g.n.mul i.d;have m:=i.n.mul g.d;have o:=g.d.mul i.d;have p:=l.add m;have t:=De (den_pos a)<|den_pos f;have e:jI (a.num*(f.den:G)+f.num*(a.den:G)) ((a.den:G)*(f.den:G))=a+f:=by have u:=den_pos a;have v:=den_pos f;rw[<-al9 _ _ O O,pD,pD]
 rw[<-e];refine N J<|F<|rc J J (kZ _ _ (g.n.sm O)<|i.d.sm O)<|rc J J (kZ _ _ (i.n.sm O)<|g.d.sm O)<|rc J J (xq _ _ (l.sm O)<|m.sm O)<|rc J J (kZ _ _ (g.d.sm O)<|i.d.sm O)<|rc J J (M5 _ _ O (p.sm O)<|o.sm O)<|z J<|bU J ?_;rfl
def amc{k}a f(g:QS k a)(i:QS k f)(l:k<=500000000000):r q 216 [aQ a,aQ f] (R<|dR (a.num*(f.den:G))<|f.num*(a.den:G)):=by refine aI Tryz.func216 ?_;refine N J<|F<|rc J J (kZ _ _ (g.n.sm O)<|i.d.sm O)<|rc J J (kZ _ _ (i.n.sm O)<|g.d.sm O)<|rc J J (LS _ _)<|z J<|cw J
def amd{k}a f(l:f.num≠0)(g:QS k a)(i:QS k f)(o:k<=500000000000):r q 133 [aQ a,aQ f] (.t [(ae,av .q<|a/f),(ah,[.I .i64 0])]):=by
 refine aI Tryz.func133 ?_;have m:(a.den:G)*f.num≠0:=zp (by have:=den_pos a;omega) l;have e:jI (a.num*(f.den:G)) ((a.den:G)*f.num)=a/f:=by rw[<-EZ,pD,zq];congr 1;conv=>rhs;rw[<-pD f,Rat.inv_divInt]
 rw[<-e];refine N J<|F<|rc J J (kZ _ _ (g.n.sm O)<|i.d.sm O)<|rc J J (kZ _ _ (g.d.sm O)<|i.n.sm O)<|rc J J (SL _ _ m ((g.n.mul i.d).sm O)<|(g.d.mul i.n).sm O)<|z J<|bU J ?_;rfl
def jd.a1{P}{f}{x y}{xs}{a}(d:r P f (y::xs) a)(g:bl x y):r P f (x::xs) a:=
 ⟨d.call,d.iL,λH W vs i k=>d.spec H W vs i<|by obtain⟨v,a,rfl,l,m⟩:=k;exact⟨v,a,J,g.1 _ _ l,m⟩⟩
def xH(a:V G)(m:G)(d:V G):V G:=(bX<|max (Z a)<|Z d).map λi=>E a i 0+m*E d i 0
def ame(f:Y->G) i:(bX<|i+1).map f=(bX i).map f++[f i]:=by rw[yx,fM];rfl
def SN a m(d:V G) u(x:u<=100000)(y:Z a<=1000)(A:Z d<=1000)(s:∀i,aH u (E a i 0))(p:aH u m)(t:∀i,0<=E d i 0/\E d i 0<4294967296):r q 260 [I .z a,aZ m,I aw d] (I .z<|aN<|xH a m d):=by
 refine aI Tryz.func260 ?_;generalize hM:max (Z a) (Z d)=M;have v:M<=1000:=O;have g:xH a m d=(bX M).map λi=>E a i 0+m*E d i 0:=by rw[xH,hM]
 rw[g];refine N J<|F<|fT .z [] J J (z J<|j<|N J ?_);refine au<|a8 (α:=Y) (λi=>⟨[(0,I .z a),(2,I aw d),(4,.c<|.P 0 0),(7,.c<|.X 1000000),(8,R i)],[(0,.box 42 0<|av .z m),(1000000,.vec 42 .z<|(bX i).map λi=>E a i 0+m*E d i 0)],3,[]⟩) (λi=>i<=M) (λi=>M-i) 0 (aY _) (wk (bO J) ⟨bE J J,bR J,h⟩) ?_;intro i B;have C:Z ((bX i).map λi=>E a i 0+m*E d i 0)=i:=az;by_cases n:i<M
 .refine jH ⟨[(0,I .z a),(2,I aw d),(4,.c<|.P 0 0),(7,.c<|.X 1000000),(8,R i)],[(0,.box 42 0<|av .z m),(1000000,.vec 42 .z<|(bX i).map λi=>E a i 0+m*E d i 0)],4,[]⟩ ?_ (λk=>F<|rg 14 J J (λf=>z J<|al J (λ_=>cP<|dB k aM)<|λh2=>mM)<|λf=>z J<|al J (λ_=>cP<|dB k aM)<|λh2=>?_)
  .have h2:=t i;have l:aH 1 (E d i 0):= .one O;refine j<|au<|cu ?_;refine rc J J (HY a i)<|rc J J (If d i)<|rc J J (jq (E d i 0) O O) (hp:=aF)<|rc J J (kZ m (E d i 0) (p.sm O)<|l.sm O)<|rc J J (xq (E a i 0) (m*E d i 0) ((s i).sm O)<|(p.mul l).sm O) ?_;refine rl .z [E a i 0+m*E d i 0] J J (ra J J J J J J J J J ?_ ?_<|z J ?_)
   .show(_+1+(_+1)/4+192)*32<=_;omega
   .show(_+1)*2<=_;omega
   refine bw<|rt J<|aT (i+1) n xp<|Wk.trans (wk (st':=⟨[(0,I .z a),(2,I aw d),(4,.c<|.P 0 0),(7,.c<|.X 4013000),(8,R ((i+1:Y):G))],[(0,.box 42 0<|av .z m),(4013000,.vec 42 .z<|(bX<|i+1).map λi=>E a i 0+m*E d i 0)],8,[]⟩) (bO J) ⟨bR J,bE J ?_,h⟩)<|Wk.trans (fU 1000000 4013000 J J J) aM;exact be (aG.vec 42 .z) (ame _ i).symm
  .exfalso;have f:¬(i:G)<(Z a:G):=a6 f;have h2:¬(i:G)<(Z d:G):=a6 h2;omega
 .have o:i=M:=by omega
  subst o;refine j<|F<|rg 14 J J (λf=>?_)<|λf=>?_
  .exfalso;have f:(i:G)<(Z a:G):=aU f;omega
  .refine z J (al J (λh2=>?_)<|λh2=>?_)
   .exfalso;have h2:(i:G)<(Z d:G):=aU h2;omega
   .exact a7<|aL<|cY 1000000 J J J<|bt J J (Md _) J<|cw J
def amf m a:xH [] m a=a.map (m*·):=by refine rF (by simp[xH])<|λi f h2=>?_;have d:i<Z a:=qq;simp only[xH,Bg,K'];rw[aK (l:=a),cO d];simp
def aav(a:V G)(d:Z a<=1000)(f:∀i,0<=E a i 0/\E a i 0<4294967296):r q 259 [I aw a] (I .z<|aN a):=by refine aI Tryz.func259 ?_;have h:=SN [] 1 a 1 D az d (λi=>aH.zero 1) (.one D) f;rw[amf,show(λx:G=>1*x)=id from funext λx=>kL x,List.map_id]at h;exact N J<|F<|rc J J (jq 1 D D)<|rc J J (h.a1<|bl.nil .z)<|z J<|cw J
def SO(p k:Y)(f:p<4294967296)(g:k<=100000):r q 177 [cU p,R k] (aZ<|(p:G)^k):=by
 refine aI Tryz.func177 ?_;have d:aH 1 (p:G):= .one O;refine N J<|bt J J (jq 1 D D) J<|j<|N J ?_;refine au<|a8 (α:=Y) (λi=>⟨[(0,cU p),(1,R k),(4,.c<|.P 0 0),(5,.c<|.P 1001000 0),(6,R i)],[(0,.box 42 0 [.B ah,.V<|.slice none 0 0]),(1001000,.box 42 0<|av .z<|(p:G)^i)],3,[]⟩) (λi=>i<=k) (λi=>k-i) 0 (aY _) (wk (bO J) ⟨bE J J,bE J ?_,h⟩) ?_
 .rw[o8];rfl
 intro i l;refine j<|N J<|al J (λa=>?_)<|λa=>?_
 .have a:i<k:=by have a:(i:G)<(k:G):=aU a;omega
  refine aD<|j<|au<|cu ?_;refine rc J J (jq p O O) (hp:=aF)<|rc J J (kZ ((p:G)^i) p ((d.pow i).sm O)<|d.sm O)<|z J ?_;refine bw<|rt J<|aT (i+1) a M6<|wk (bO J) ⟨bE J J,bE J ?_,h⟩;rw[fK];rfl
 .have a:i=k:=by have a:¬(i:G)<(k:G):=a6 a;omega
  subst a;exact a7<|aL<|N J<|bU J J
def dH(a m:G):G:=if a%m+a%m>m then a%m-m else a%m
def SP{n}{a m}(d:0<m)(f:aH n m):aH n (dH a m):=by have g:=iN a (O:m≠0);have i:=iO a d;unfold dH aH at*;split<;>omega
def aaw{a d}:dR a d>0↔a>d:=by
 unfold dR;split
 .omega
 .split<;>omega
def SQ a m u(v:u<=100000)(x:Z a<=1000)(l:0<m)(s:∀i,aH u (E a i 0))(n:aH u m):r q 211 [I .z a,aZ m] (I .z<|aN<|a.map (dH · m)):=by
 refine aI Tryz.func211 ?_;refine N J<|F<|fT .z [] J J (z J<|j<|N J ?_);refine au<|a8 (α:=Y) (λi=>⟨[(0,I .z a),(3,.c<|.P 0 0),(5,.c<|.X 1000000),(6,R i)],[(0,.box 42 0<|av .z m),(1000000,.vec 42 .z<|(c i a).map (dH · m))],3,[]⟩) (λi=>i<=Z a) (λi=>Z a-i) 0 (aY _) (wk (bO J) ⟨bE J J,bR J,h⟩) ?_;intro i y;have A:((c i a).map (dH · m)).length=i:=b8;refine j<|N J<|al J (λd=>?_)<|λd=>?_
 .have d:i<Z a:=by have d:(i:G)<(Z a:G):=aU d;omega
  have o:r q 183 [.a (av .z<|E a (af<|(i:G)) 0),aZ m] (.t [(ae,av .z<|E a i 0/m),(ae,av .z<|E a i 0%m),(ah,[.I .i64 0])]):=by rw[bY];exact EC (E a i 0) m O ((s i).sm O)<|n.sm O
  have p:aH u (E a i 0%m):=aH.emod l n;have g:=xq (E a i 0%m) (E a i 0%m) (p.sm O)<|p.sm O;refine aD<|j<|au<|F<|rc J J o (hp:=aF)<|z J ?_;refine jH ⟨[(0,I .z a),(3,.c<|.P 0 0),(5,.c<|.X 1000000),(6,R i),(8,.c<|.P 4011000 0)],[(0,.box 42 0<|av .z m),(1000000,.vec 42 .z<|(c i a).map (dH · m)),(4011000,.box 42 0<|av .z<|dH (E a i 0) m)],7,[]⟩ ?_<|λk=>?_
  .refine cu (rl .z [dH (E a i 0) m] J J (ra J J J J J J J J J ?_ ?_<|z J ?_))
   .show(_+1+(_+1)/4+192)*32<=_;omega
   .show(_+1)*2<=_;omega
   refine bw<|rt J<|aT (i+1) d nS<|Wk.trans (wk (st':=⟨[(0,I .z a),(3,.c<|.P 0 0),(5,.c<|.X 7003000),(6,R ((i+1:Y):G))],[(0,.box 42 0<|av .z m),(7003000,.vec 42 .z<|(c (i+1) a).map (dH · m))],9,[]⟩) (bO J) ⟨bR J,bE J ?_,h⟩)<|Wk.trans (fU 1000000 7003000 J J J) aM;refine be (aG.vec 42 .z) ?_;rw[rU a i d,fM];rfl
  .refine F (rc J J g<|rc J J (LS (E a i 0%m+E a i 0%m) m)<|z J<|al J (λf=>?_)<|λf=>?_)
   .have f:dR (E a i 0%m+E a i 0%m) m>0:=aU f;rw[aaw]at f;refine cu<|rc J J (R2 (E a i 0%m) m (p.sm O)<|n.sm O)<|z J<|dB k<|wk (bO J) ⟨bE J J,bR J,bE J ?_,h⟩;rw[dH,b f];rfl
   .have f:¬dR (E a i 0%m+E a i 0%m) m>0:=a6 f;rw[aaw]at f;refine cP<|dB k<|wk (bO J) ⟨bE J J,bR J,bE J ?_,h⟩;rw[dH,w f];rfl
 .have d:i=Z a:=by have d:¬(i:G)<(Z a:G):=a6 d;omega
  subst d;rw[fR];exact a7<|aL<|cY 1000000 J J J<|bt J J (Md _) J<|cw J
def amg{a d}(f:cd a=cd d)(g:eG a=eG d):a=d:=by have i:val (ao<|aC a)=val (ao<|aC d):=be val g;rw[eN,eN]at i;have k:=y8 a;have l:=y8 d;rw[<-k,<-l,f,(O:aC a=aC d)]
def aax{x y:Bool}:(x !=y)=ae↔x≠y:=by cases x<;>cases y<;>decide
def aay a(f:Sm a):r q 93 [aZ a] (cB ae):=by
 refine aI Tryz.func93 ?_;have g:Z (ao<|aC a)<=1099511627776:=f;have d:Z (eG a)<=1099511627776:=f;refine N J<|N J<|j<|N J<|al J (λh=>?_)<|λh=>aD ?_
 .have h:(Z (ao<|aC a):G)=0:=eq_of_beq h;have k:a=0:=by have:¬0<Z (ao<|aC a):=O;rw[o5]at this;omega
  subst k;exact N J<|bL<|cK<|atR J
 .have h:(Z (ao<|aC a):G)≠0:=nV h;have i:0<Z (eG a):=by show 0<Z (ao<|aC a);omega
  refine N J (hp:=aF)<|bU J ?_;have l:=vk<|aC a;refine be cB ?_;rcases l with e|e
  .rw[e]at h;simp at h
  .show(E (ao<|aC a) (af<|(Z (ao<|aC a):G)-1) 0 !=0)=ae;rw[(O:af ((Z (ao<|aC a):G)-1)=Z (ao<|aC a)-1)];simpa using e
def aaz a g(l:Sm a):r q 68 [aZ a,aZ g] (cB<|decide<|a=g):=by
 refine aI Tryz.func68 ?_;have l:Z (eG a)<=1099511627776:=l;refine N J<|j<|F<|rg 11 J J (λd=>?_)<|λd=>?_
 .have d:cd a≠cd g:=aax.1 d;refine z J<|al J (λ_=>N J<|bL<|cK<|eJ J<|be cB ?_)<|λh2=>mM;rw[nr (λe=>d rW)]
 .have d:cd a=cd g:=by
   have d:¬(cd a !=cd g)=ae:=by rw[d];decide
   rw[aax]at d;exact Decidable.not_not.1 d
  refine z J<|al J (λh2=>?_)<|λh2=>aD ?_
  .have h2:=xA h2;refine N J<|bL<|cK<|eJ J<|be cB ?_;rw[nr (λe=>h2 rW)]
  .have h2:=vX h2;refine j<|N J<|au<|a8 (α:=Y) (λi=>⟨[(2,.c<|.P 0 0),(3,.c<|.P 1000 0),(5,R i)],[(0,.box 42 0<|av .z a),(1000,.box 42 0<|av .z g)],4,[]⟩) (λi=>i<=Z (eG a)/\c i (eG a)=c i (eG g)) (λi=>Z (eG a)-i) 0 ⟨aY _,az⟩ (wk (bO J) ⟨bE J J,bE J J,h⟩) ?_;rintro i ⟨m,ht⟩;refine j (N J<|al J (λf=>?_)<|λf=>?_)
   .have f:i<Z (eG a):=by have f:(i:G)<(Z (eG a):G):=aU f;omega
    refine aD<|j<|au<|N J (hp:=aF)<|al J (λk=>?_)<|λk=>cP<|bw ?_
    .have k:E (eG a) i 0≠E (eG g) i 0:=xA k;refine N J<|bL ?_;repeat(first|refine cK ?_|refine kX ?_|refine lI ?_)
     refine eJ J<|be cB ?_;rw[nr (λe=>k rW)]
    .have k:E (eG a) i 0=E (eG g) i 0:=vX k;exact rt J<|aT (i+1) ⟨f,by rw[rU _ i f,rU _ i O,ht,k]⟩ (O:Z (eG a)-(i+1)<Z (eG a)-i)<|wk (bO J) ⟨bE J J,bE J J,h⟩
   .have f:i=Z (eG a):=by have f:¬(i:G)<(Z (eG a):G):=a6 f;omega
    subst f;rw[fR,iY O]at ht;refine a7<|aL<|N J<|bU J<|be cB ?_;rw[o9 (amg d ht)]
def aaA{k}a f(i:QS k a)(l:k<=100000000000):r q 21 [aQ a,aQ f] (cB<|decide<|a=f):=by
 refine aI Tryz.func21 ?_;refine N J<|F<|rc J J (aaz a.num f.num<|i.n.sm O)<|rg 10 J J (λh=>?_)<|λh=>?_
 .have h:a.num=f.num:=aU h;refine jV J J J J J (aaz (a.den:G) (f.den:G)<|i.d.sm O)<|z J<|bU J ?_;refine be cB ?_;by_cases e:(a.den:G)=(f.den:G)
  .rw[o9 e,o9<|Rat.ext h O];rfl
  .rw[nr e,nr<|λg=>e<|by rw[g]];rfl
 .have h:¬a.num=f.num:=a6 h;refine z J<|bU J ?_;refine be cB ?_;rw[nr (λg=>h<|by rw[g])]
def amh{k}a(f:QS k a)(i:k<=100000000000):r q 39 [aQ a] (cB ae):=by
 refine aI Tryz.func39 ?_;have l:=den_pos a;refine N J<|j<|F<|rc J J (aay a.num<|f.n.sm O)<|rg 7 J J (λh=>fE)<|λ_=>?_;refine jV J J J J J (aay (a.den:G)<|f.d.sm O)<|rg 13 J J (λh=>fE)<|λ_=>?_;refine jV J J J J J (By (a.den:G))<|z J<|al J (λh=>?_)<|λ_=>aD ?_
 .exfalso;have h:fB (a.den:G)<1:=aU h;unfold fB at h;split at h
  .omega
  .split at h<;>omega
 have g:=Mc a.num (a.den:G) (f.n.sm O)<|f.d.sm O;have e:iu a.num (a.den:G)=1:=a.reduced;rw[e]at g;refine F<|rc J J g<|rc J J (jq 1 D D)<|rc J J (LS ((1:Y):G) 1)<|z J<|cw J
abbrev ZZ:ET:= .pr .z .z
def qz(a:e):G×G:=(a.num,(a.den:G))
def M7 k(l:V e):mF (.vec k ZZ<|l.map qz) (.vec k .q l):=by
 refine⟨λN g W v h=>?_,λ_ h=>fE⟩;rcases h with⟨a,d⟩|⟨b,f,vs,a,d,o,m,n,p,s,t⟩
 .exact .inl ⟨a,List.map_eq_nil_iff.1 d⟩
 .rw[cy]at a m n;refine .inr ⟨b,f,vs,a,d,o,m,n,λi u=>?_,s,t⟩;have:=p i (by rw[cy];exact u);rw[Bg]at this;exact this
def aaB(f:V e):bl (.c<|.S .q f) (.c<|.S ZZ<|f.map qz):=by
 refine⟨λg v h=>?_,λ_ h=>by simpa[AV.ak,C.ak]using h⟩;obtain⟨a,k,m,n,o,d⟩:lZ (cZ g.H .q) 4 g.H f v:=h;refine⟨a,k,by rw[cy];exact m,by rw[cy];exact n,by rw[cy];exact o,?_⟩;rcases d with d|⟨b,off,p,d⟩
 .exact .inl (by rw[d];rfl)
 .refine .inr ⟨b,off,p,λi l=>?_⟩;rw[cy]at l;let ⟨cs,c1,s,t⟩:=d i l;exact⟨cs,c1,by rw[Bg];exact s,t⟩
def ami{f:Type}(a d:f){i n}(g:i<n):(bc i a++bc (n-i) d).set i a=bc (i+1) a++bc (n-(i+1)) d:=by rw[L7 _ _ az,fo,lH,(O:n-i=(n-(i+1))+1),wP,L8,List.replicate_succ',l7];rfl
def M8(n:Y)(f:n<=1000):ox q 118 [R n] 44 .q (bc n 0):=by
 refine HG Tryz.func118 J J J J D ?_;refine N J<|F<|rm ZZ n J J J J J J Rl J ?_ ?_<|z J<|j<|N J ?_
 .show n*64<=_;omega
 .show n*4<=_;omega
 refine au<|a8 (α:=Y) (λi=>⟨[(3,.c<|.X 1001000),(7,R n),(8,R i)],[(1001000,.vec 44 ZZ<|bc i (0,1)++bc (n-i) (0,0))],3,[]⟩) (λi=>i<=n) (λi=>n-i) 0 (aY _) (wk (bO J) ⟨bE J J,h⟩) ?_;intro i g;refine N J<|j<|al J (λa=>?_)<|λa=>?_
 .have a:i<n:=by have a:(i:G)<(n:G):=aU a;omega
  have d:Z (bc i ((0,1):G×G)++bc (n-i) (0,0))=n:=b8;refine cP<|aL<|j<|au<|N J<|cu<|rc J J (SI 0 D D)<|vO ((0,1):G×G) J J J J J ?_ (z J<|bw<|rt J (hp:=aF)<|aT (i+1) a (O:n-(i+1)<n-i)<|wk (bO J) ⟨bE J ?_,h⟩) (hp:=?_)
  .show af ((i:G))<_;rw[d];omega
  .refine be (aG.vec 44 ZZ) ?_;show(bc i ((0,1):G×G)++bc (n-i) (0,0)).set (af<|(i:G)) (0,1)=_;rw[bY,ami _ _ a]
  .show 0<=(i:G)/\(i:G)<(Z (bc i ((0,1):G×G)++bc (n-i) (0,0)):G);rw[d];omega
 .have a:i=n:=by have a:¬(i:G)<(n:G):=a6 a;omega
  subst a;refine a7<|aL ?_;refine eP (st':=⟨[(3,.c<|.X 1001000)],[(1001000,.vec 44 .q<|bc i 0)],4,[]⟩) (wk ⟨sR J,h⟩ ⟨⟨_,J,?_⟩,h⟩)<|N J<|bL<|HE (id:=1001000) cv J J;have:=M7 44<|bc i 0;rw[List.map_replicate]at this;rw[lH,DV,iD];exact this
def It(xs:V e)(l:Z xs<=1000000):r q 120 [I .q xs] (I .q<|fC xs):=by
 refine aI Tryz.func120 ?_;refine N J<|N J ?_;refine du<|au<|a8 (α:=Y) (λk=>⟨[(0,I .q xs),(3,R k)],[],2,[]⟩) (λk=>k<=Z xs/\jW xs k=jW xs (Z xs)) (λk=>k) (Z xs) ⟨aO _,J⟩ aM ?_;rintro k ⟨m,a⟩;have f:jW xs k=k->bl (I .q<|c k xs) (I .q<|fC xs):=λg=>by refine bl.of_eq ?_;unfold fC;rw[<-a,g]
 refine du<|F ?_;refine rg 8 J J (λd=>?_)<|λd=>?_
 .have d:0<k:=by have d:(k:G)>0:=aU d;omega
  obtain⟨j,rfl⟩:∃j,k=j+1:=⟨k-1,O⟩;have i:af (((j+1:Y):G)-1)=j:=O;refine jV J J J J J (SH<|E xs (af<|((j+1:Y):G)-1) 0) (z J ?_) (hp:=kv);refine al J (λh2=>?_)<|λh2=>?_
  .have h2:(E xs j 0).num=0:=by have h2:fB (E xs (af<|((j+1:Y):G)-1) 0).num=0:=eq_of_beq h2;rw[i]at h2;exact v7.1 h2
   refine aD<|au<|rt J (eE<|aT j ⟨O,?_⟩ s8<|wk ⟨sR J,sE J ?_,h⟩ h) (hp:=kv)
   .rw[<-a,jW,b h2]
   .exact je (O:((j+1:Y):G)-1=(j:G))
  .have h2:(E xs j 0).num≠0:=by have h2:fB (E xs (af<|((j+1:Y):G)-1) 0).num≠0:=nV h2;rw[i]at h2;exact λg=>h2 (v7.2 g)
   exact a7<|aL<|N J (bL<|ig cv J<|f<|by rw[jW,w h2]) (hp:=aF)
 .have d:k=0:=by have d:¬(k:G)>0:=a6 d;omega
  subst d;exact z J<|al J (λh2=>mM)<|λ_=>a7<|aL<|N J (bL<|ig cv J<|f J) (hp:=aF)
def nY(a:V e)(d:e)(f:V e)(k m:Y):V e:=(bX<|Z a).map λi=>if k<=i/\i<k+m then E a i 0+d*E f (i-k) 0 else E a i 0
def jz(d:V e)(f:e)(a:V e)(k:Y):V e:=nY d f a k<|Z a
def nw(a d f k m):Z (nY a d f k m)=Z a:=by simp[nY]
def uA{a}{d}{f}{k m i}(g:i<Z a):E (nY a d f k m) i 0=if k<=i/\i<k+m then E a i 0+d*E f (i-k) 0 else E a i 0:=by unfold nY;rw[aK,jh,k6 g];rfl
def Iu{a d:V e}(g:Z a=Z d)(k:∀i,i<Z a->E a i 0=E d i 0):a=d:=by
 refine rF g λi f l=>?_
 have:=k i f;rwa[aK,cO f,aK,cO l]at this
def amj(a f g k):nY a f g k 0=a:=Iu (nw ..) λi d=>by rw[nw]at d;rw[uA d,w O]
def amk(a f k):jz a 0 f k=a:=Iu (nw ..) λi d=>by
 unfold jz at*;rw[nw]at d;rw[uA d];split
 .rw[rX,oz]
 .rfl
def BT{l}{i}a(x:e)(f:i<Z l):(l.set i x).getD a 0=if i=a then x else E l a 0:=by
 rw[aK,Rz];by_cases d:i=a
 .subst d;rw[b J,b J,b f];rfl
 .rw[w d,w d,aK]
def aml{a}{d}{f}{k m}(n:k+m<Z a):(nY a d f k m).set (k+m) (E a (k+m) 0+d*E f m 0)=nY a d f k (m+1):=Iu (by rw[ru,nw,nw]) λi g=>by
 rw[ru,nw]at g;rw[BT _ _ (by rw[nw];exact n),uA g,uA g];by_cases e:k+m=i
 .subst e;rw[b J,b O,zh]
 .rw[w e];by_cases l:k<=i/\i<k+m
  .rw[b l,b O]
  .rw[w l,w O]
def amm{f}{g}{a}{k m}(n:E a m 0=0):nY f g a k m=nY f g a k (m+1):=Iu (by rw[nw,nw]) λi d=>by
 rw[nw]at d;rw[uA d,uA d];by_cases e:i=k+m
 .subst e;rw[w O,b O,zh,n,fH,oz]
 .by_cases l:k<=i/\i<k+m
  .rw[b l,b O]
  .rw[w l,w O]
def v8{a:e}(d:a.num=0):a=0:=Rat.num_eq_zero.1 d
def M9{s}(L:s<=200000000000) g d a k(M:k+Z a<=Z g)(A:Z g<=1000)(B:∀i,QS s (E g i 0))(v:QS s d)(H:∀i,QS s (E a i 0)):
  ui q 119 [.c (.X 0),aQ d,I .q a,R k] 44 .q g (.t []) (jz g d a k):=by
 refine HI Tryz.func119 J J J J J D ?_
 refine N J<|j<|bt J J (SH d) J<|al J (λf=>?_)<|λf=>aD ?_
 .have f:fB d.num=0:=eq_of_beq f;have f:d=0:=v8<|v7.1 f;subst f;rw[amk];exact bL<|cK<|yZ cv J (bl.refl _) J
 refine N J ?_
 refine au<|a8 (α:=Y) (λm=>⟨[(0,.c<|.X 0),(3,R k),(5,.c<|.P 1000000 0),(13,I .q a),(14,R<|Z a),(15,R m)],[(0,.vec 44 .q<|nY g d a k m),(1000000,.box 44 0<|av .q d)],4,[]⟩) (λm=>m<=Z a) (λm=>Z a-m) 0 (aY _) (wk (bO J) ⟨bE J ?_,bE J J,h⟩) ?_
 .rw[amj]
 intro m C
 refine N J<|j<|al J (λf=>?_)<|λf=>?_
 .have f:m<Z a:=by have f:(m:G)<(Z a:G):=aU f;omega
  have x:af ((m:G))=m:=bY m;have o:af ((m:G)+(k:G))=k+m:=O;have p:=nw g d a k m;have y:E (nY g d a k m) (af<|(m:G)+(k:G)) 0=E g (k+m) 0:=by rw[o,uA O,w O]
  have n:QS s (E a (af<|(m:G)) 0):=H _;have u:QS (2*s) (E (nY g d a k m) (af<|(m:G)+(k:G)) 0):=by rw[y];exact(B _).le O
  refine aD<|j<|au<|N J<|bt J J (SH<|E a (af<|(m:G)) 0) J<|al J (λl=>?_)<|λl=>cP ?_
  .refine cu (rc J J (aau d (E a (af<|(m:G)) 0) v n O) (rc J J (al8 _ _ u (v.mul n) O)<|vO (E (nY g d a k m) (af<|(m:G)+(k:G)) 0+d*E a (af<|(m:G)) 0) J J J J J ?_ (z J ?_) (hp:=?_)) (hp:=?_))
   .show af ((m:G)+(k:G))<Z (nY g d a k m);rw[o,p];omega
   .refine bw<|rt J (hp:=aF)<|aT (m+1) f (O:Z a-(m+1)<Z a-m)<|wk (bO J) ⟨bE J ?_,bE J J,h⟩;show aG.vec 44 .q ((nY g d a k m).set (af<|(m:G)+(k:G))<|E (nY g d a k m) (af<|(m:G)+(k:G)) 0+d*E a (af<|(m:G)) 0)=_;rw[y,o,x,aml O]
   .simp only[Pr.an,Pr.h,num,gT,true_and,and_true];omega
   .simp only[Pr.an,Pr.h,num,gT,true_and,and_true];omega
  .have l:fB (E a (af<|(m:G)) 0).num=0:=vX l;rw[x]at l;have l:=v8<|v7.1 l;refine bw<|rt J (hp:=aF)<|aT (m+1) f (O:Z a-(m+1)<Z a-m)<|wk (bO J) ⟨bE J ?_,bE J J,h⟩;rw[amm l]
 .have f:m=Z a:=by have f:¬(m:G)<(Z a:G):=a6 f;omega
  subst f;exact a7<|YT cv J (bl.refl _) J
def QS.zero{s}(f:1<=s):QS s 0:=⟨aH.zero _,(aH.one (a:=1) D).le f⟩
def QS.int{s}(f:1<=s){n}(g:aC n<4294967296):QS s (n:e):=⟨(aH.one g).le f,(aH.one (a:=1) D).le f⟩
def rY(d:e)(a:V e):V e:=a.map (d*·)
def aaC d a i:E (rY d a) i 0=d*E a i 0:=by
 unfold rY;rw[aK,jh,aK];cases a[i]? with
 |none=>show(0:e)=d*0;rw[fH]
 |some x=>rfl
def Iv n i:E (bc n (0:e)) i 0=0:=by rw[aK,lM];split<;>rfl
def amn d a:jz (bc (Z a) 0) d a 0=rY d a:=Iu (by rw[jz,nw,fo,rY,cy]) λi f=>by rw[jz,nw,fo]at f;rw[jz,uA (by rw[fo];exact f),b O,Iv,Iw,BO,aaC]
def SS{s}(k:1<=s)(l:s<=200000000000) d a(g:Z a<=1000)(m:QS s d)(n:∀i,QS s (E a i 0)):r q 75 [aQ d,I .q a] (I .q<|fC<|rY d a):=by refine aI Tryz.func75 ?_;have o:=M8 (Z a) g;have f:=M9 l (bc (Z a) 0) d a 0 RX (by rw[fo];exact g) (λi=>by rw[Iv];exact QS.zero k) m n;rw[amn]at f;have p:=It (rY d a) (by unfold rY;rw[cy];omega);refine N J<|F<|Bq J J o<|z J<|F<|y6 1002000 J f J J<|z J ?_;exact cY 1002000 J J J<|bt J J p J<|cw J
def amo{s}(o:s<=200000000000) a(g:a≠[])(i:Z a<=1000)(k:E a (Z a-1) 0≠0)(f:QS s (E a (Z a-1) 0)):r q 151 [I .q a] (aQ (E a (Z a-1) 0)⁻¹):=by
 refine aI Tryz.func151 ?_;have p:=bQ.2 g;have l:af ((Z a:G)-1)=Z a-1:=O;have m:r q 115 [aQ (E a (af<|(Z a:G)-1) 0)] (.t [(ae,av .q (E a (Z a-1) 0)⁻¹),(ah,[.I .i64 0])]):=by rw[l];exact M2 _ (λe=>k<|v8 e) (f.n.sm O)<|f.d.sm O
 refine N J<|j<|N J<|al J (λh=>?_)<|λh=>aD ?_
 .have h:(Z a:G)=0:=eq_of_beq h;exact absurd h O
 refine F<|rc J J m (z J<|N J<|cw J) (hp:=aF)
def amp{s}(k:1<=s)(l:s<=200000000000) a(m:a≠[])(o:Z a<=1000)(p:E a (Z a-1) 0≠0)(f:∀i,QS s (E a i 0))(g:QS s (E a (Z a-1) 0)⁻¹):r q 114 [I .q a] (I .q<|fC<|rY (E a (Z a-1) 0)⁻¹ a):=by
 refine aI Tryz.func114 ?_;have u:=bQ.2 m;have v:af ((Z a:G)-1)=Z a-1:=O;have x:r q 115 [aQ (E a (af<|(Z a:G)-1) 0)] (.t [(ae,av .q (E a (Z a-1) 0)⁻¹),(ah,[.I .i64 0])]):=by rw[v];exact M2 _ (λe=>p<|v8 e) ((f _).n.sm O)<|(f _).d.sm O
 refine N J<|j<|N J<|al J (λh=>?_)<|λh=>aD ?_
 .have h:(Z a:G)=0:=eq_of_beq h;exact absurd h O
 refine F<|rc J J x (z J<|bt J J (SS k l _ a o g f) J<|cw J) (hp:=aF)
def QS.inv{s}{a}(i:QS s a)(k:a≠0):QS s a⁻¹ :=by
 have l:a.num≠0:=λe=>k<|v8 e
 rw[aas];have g:=L' (a.den:G) a.num l;have m:iu (a.den:G) a.num=1:=by rw[Int.gcd_comm];exact a.reduced
 rw[m]at g;by_cases f:a.num<0
 .rw[b f,show-(((1:Y):G))= -1 from J,BB,uo,BB,uo]at g;exact⟨by rw[g.1];exact i.d.neg,by rw[g.2];exact i.n.neg⟩
 .rw[w f,show(((1:Y):G))=1 from J,uo,uo]at g;exact⟨by rw[g.1];exact i.d,by rw[g.2];exact i.n⟩
def tf(a:V e):V e:=(bX<|Z a-1).map λi=>(((i+1:Y):G):e)*E a (i+1) 0
def SU(a):Z (tf a)=Z a-1:=by simp[tf]
def aaD{a}{i}(d:i<Z a-1):E (tf a) i 0=(((i+1:Y):G):e)*E a (i+1) 0:=by unfold tf;rw[aK,jh,k6 d];rfl
def zr(a:V e)(M:Y):V e:=a++bc (M-Z a) 0
def M'{a}{M}(d:Z a<=M):Z (zr a M)=M:=by simp[zr];omega
def aaE a M i:E (zr a M) i 0=E a i 0:=by
 unfold zr;rw[aK,aK];by_cases h:i<Z a
 .rw[DF h]
 .rw[DG O,iX (l:=a) O,lM];split<;>rfl
def xI(a:V e)(f:e)(d:V e):V e:=jz (zr a<|max (Z a)<|Z d) f d 0
def amq{s}(y:1<=s)(m:s<=200000000000) a f d(A:Z a<=1000)(B:Z d<=1000)(n:0<max (Z a) (Z d))(o:∀i,QS s (E a i 0))(p:QS s f)(t:∀i,QS s (E d i 0)):r q 128 [I .q a,aQ f,I .q d,R 0] (I .q<|fC<|xI a f d):=by
 refine aI Tryz.func128 ?_;generalize hM:max (Z a) (Z d)=M at*;have g:M<=1000:=O;have u:=M8 M g;have k:=M9 m (zr a M) f d 0 (by rw[M' O];omega) (by rw[M' O];exact g) (λi=>by rw[aaE];exact o i) p t;have v:=It (xI a f d) (by rw[xI,jz,nw,hM,M' O];omega);have e:xI a f d=jz (zr a M) f d 0:=by rw[xI,hM]
 rw[<-e]at k;have x:(if(Z d:G)+0>(Z a:G)then(Z d:G)+0 else(Z a:G))=(M:G):=by split<;>omega
 have l:ox q 118 [R (if(Z d:G)+0>(Z a:G)then(Z d:G)+0 else(Z a:G))] 44 .q (bc M 0):=by rw[x];exact u
 refine N J<|F<|Bq J J l<|z J ?_;refine F<|LR J J J J J RX (λe=>by have:=be Z e;rw[fo]at this;simp at this;omega)<|z J ?_;rw[SV];change TR _ _ _ ⟨_,(_,.vec 44 .q<|zr a M)::_,_,_⟩ _;refine F<|y6 1007000 J k J J<|z J ?_;exact cY 1007000 J J J<|bt J J v J<|cw J
def amr{s}(k:1<=s)(m:s<=200000000000) a d(n:Z a<=1000)(o:Z d<=1000)(g:0<max (Z a) (Z d))(p:∀i,QS s (E a i 0))(t:∀i,QS s (E d i 0)):r q 74 [I .q a,I .q d] (I .q<|fC<|xI a (-1) d):=by refine aI Tryz.func74 ?_;have l:=SI (-1) D D;have f:=amq k m a (((-1:G)):e) d n o g p (QS.int k D) t;rw[show(((-1:G)):e)= -1 from J]at f l;exact N J<|F<|rc J J l<|rc J J f<|z J<|cw J
section
variable{P:Program}{tt:V (Y×TI)}
def ams(Q:cq P tt=ae){n L}{M}{i}{o:Oper}(ho:M[i]? =ad o)(hg:o.guard=none){d:Y}(hd:o.dst=ad d)(U:d<n){x y}{t1 t2}(b6:o.op= .call ⟨.builtin .copy,#[x,y],#[t1,t2]⟩)
 {f}{p}{cC E1:TypeId} {T}{ei:TI} (hx:f.ev x=ad (.c<|.X p)) (hl:S p f.mem=ad (.vec cC T [])) (hy:f.ev y=ad (.c<|.S T [])) (B:yY tt t1 t2=ad (E1,ei)) (vB:ei.size=T.n):
  kT P n M i f (f.put d<|.c<|.I .i64 0) L (bK [x,y]++cV [p],[.s d]):=by
 refine⟨(cJ f x++cJ f y)++fL f [p],[(.s d,ad<|.v<|.c<|.I .i64 0)],?_,?_,oS f d _,?_,λk hk=>jG⟩
 .refine sO ho hg hd U _ _ L ?_;intro F q σ g W a l C;have B:=Lw Q B;rw[vB]at B;have r:a.eval x=g.γ p:=dA l f x _ hx<|λkx b7=>C kx ef;have w:=dA l f y _ hy<|λkx b7=>C kx ef;have D:σ (.m p)=ad (.b<|.vec cC T ([]:V T.den)):=C (.m p,.b<|.vec cC T []) qm;let ⟨e2,iZ⟩:=B.u2;let ⟨inf,z,u,A,R,xd,ua⟩:=B.info;let ⟨us,t,G,rI,xk⟩:=Bj (P:=P) (st:=f) (sz:=T.n) (y:= .c<|.S T []) (m:=0) (cs:=[]) (ids:=[]) l (by simp[ud]) w (λp N=>by cases N) iZ J;have O:us=[]:=G;subst O;refine⟨λj hj=>(by cases hj),(.int .i64 0:Value),?_,J⟩;have K:(aaF #[t1,t2] o.type #[a.eval x,a.eval y]).run P W= .ok (.int .i64 0) W:=by
   rw[r];have Z:=t.cells;rcases l.cX p _ D with⟨H,_⟩|⟨b,cap,vs,H,hh,vI,tR,hlen,hr,hN,hz⟩
   .rw[H];simp[aaF,run_underlying B.u1,sizeOf,typeInfo,u,t.len,A,Z,goInt,Sem.run,pure]
   .rw[H];simp[aaF,run_underlying B.u1,sizeOf,typeInfo,u,t.len,A,Z,goInt,Sem.run,pure,storeCells]
  refine DY b6<|λcs=>?_;have e:(#[x,y]:Array Operand).map a.eval= #[a.eval x,a.eval y]:=az;rw[e];simp only[Go.builtin,Sem.run_bind,K,Result.andThen];rfl
 .intro kx b7;rcases bg.1 b7 with h|h
  .rcases bg.1 h with h|h
   .exact eD _ x kx h
   .exact eD _ y kx h
  .exact kr _ [p] kx h
 .intro k hk;simp only[dI,fM,bg]at hk;rcases hk with(h|h)|h
  .exact eH _<|eO f [x,y] k tV
  .exact eH _<|eO f [x,y] k vD
  .exact gD _<|ku f [p] k h
end
section
variable{n:Y}{sl cr:V (Y×AV)}{mem cp:V (Y×aG)}{nx:Y}{gd cD:V (Y×Bool)}{ops:Array Oper}{draw:Bool}{p:Pr}{ks dJ:V Ks}{i i' n0 cF:Y}{os dS:V Oper}{d:Y}{ty:TypeId}{pos:String}{iM:Array Edge}{R:St->Prop}
def amt{x y}{k l}{a}{o u:TypeId}{T}{m}(v:runs dY n nx draw ops.toList os i ⟨sl,mem,n0,gd⟩ .t ks=(⟨ad d,.call ⟨.builtin .copy,#[x,y],#[k,l]⟩,ty,pos,iM,none⟩::dS,i',⟨cr,cp,cF,cD⟩,p,dJ))
  (A:St.ev ⟨cr,cp,cF,cD⟩ x=ad (.c<|.X a)) (B:S a cp=ad (.vec o T [])) (H:St.ev ⟨cr,cp,cF,cD⟩ y=ad (.c<|.S T [])) (L:yY dY k l=ad (u,m))
  (M:RG q n ops draw nx (i'+1) dS ⟨(d,.c<|.I .i64 0)::cr,cp,cF,cD⟩ (ia draw dJ (bK [x,y]++cV [a],[.s d])) R) (f:m.size=T.n:=by rfl)
  (P:p:=by exact mb) (g:Nat.blt d n=ae:=by rfl):RG q n ops draw nx i os ⟨sl,mem,n0,gd⟩ ks R:=
 kU cv v P (nc (λC=>ams cv C J J (c8 g) J A B H L f)<|nh M)
end
def dC(inv:e)(a f:V e)(n m:Y):Y->V e×V e
 |0=>(bc m 0,a)
 |d+1=>((dC inv a f n m d).1.set (m-1-d)<|(dC inv a f n m d).2.getD (m-1-d+n) 0*inv,jz (dC inv a f n m d).2 (-((dC inv a f n m d).2.getD (m-1-d+n) 0*inv)) f<|m-1-d)
def xJ(inv a f n m):∀d,(dC inv a f n m d).1.length=m/\(dC inv a f n m d).2.length=Z a
 |0=>⟨fo,J⟩
 |d+1=>by let ⟨g,h2⟩:=xJ inv a f n m d;exact⟨by rw[dC,ru,g],by rw[dC,jz,nw,h2]⟩
def amu{s}(h1:1<=s)(hs:s<=100000000000) a g n m(hn:Z g=n+1)(hm:Z a=n+m)(HH:0<m)(la:Z a<=1000)(x:E g n 0≠0)(L:∀i,QS s (E g i 0))(hS:∀f,f<=m->∀i,QS s ((dC (E g n 0)⁻¹ a g n m f).2.getD i 0)):
  r q 65 [I .q a,I .q g] (.t [(ah,[.S .q (fC (dC (E g n 0)⁻¹ a g n m m).1)]),(ah,[.S .q (fC<|(dC (E g n 0)⁻¹ a g n m m).2.take n)]),(ah,[.I .i64 0])]):=by
 refine aI Tryz.func65 ?_
 refine N J<|j<|N J<|al J (λl=>?_)<|λl=>aD ?_
 .have l:(Z g:G)=0:=eq_of_beq l;exact absurd l O
 refine F<|rm ZZ (Z a) J J J J J J Rl J ?_ ?_<|z J ?_
 .show Z a*64<=_;omega
 .show Z a*4<=_;omega
 refine eP (st':=⟨[(0,.c<|.S ZZ<|a.map qz),(1,I .q g),(7,.c<|.X 2002000)],[(2002000,.vec 44 ZZ<|bc (Z a) (0,0))],3,[]⟩) (wk ⟨⟨_,J,aaB a⟩,sR J,sR J,h⟩ ⟨bR J,h⟩) ?_
 refine F<|LR J J J J J (by rw[fo,cy];omega) (λe=>by have:=be Z e;rw[fo,nb]at this;omega)<|z J ?_
 have D:SW qz a++List.drop (Z<|SW qz a) (bc (Z a) ((0,0):G×G))=a.map qz:=by rw[cy,SV,lH,DV,iD]
 refine eP (st':=⟨[(0,.c<|.S ZZ<|a.map qz),(1,I .q g),(7,.c<|.X 2002000)],[(2002000,.vec 44 .q a)],4,[]⟩) (wk (bO J) ⟨⟨_,J,by rw[D];exact M7 44 a⟩,h⟩) ?_
 refine N J<|j<|N J<|al J (λl=>?_)<|λl=>aD ?_
 .have l:(Z (a.map qz):G)<=(Z g:G)-1:=aU l;rw[cy]at l;exact absurd l O
 have V:af ((Z g:G)-1)=n:=O
 have hi:r q 115 [aQ (E g (af<|(Z g:G)-1) 0)] (.t [(ae,av .q (E g n 0)⁻¹),(ah,[.I .i64 0])]):=by rw[V];exact M2 _ (λe=>x<|v8 e) ((L _).n.sm O)<|(L _).d.sm O
 have y:QS s (E g n 0)⁻¹ :=(L n).inv x
 generalize (E g n 0)⁻¹ =inv at*
 have ez:(Z (a.map qz):G)-((Z g:G)-1)=(m:G):=by rw[cy];omega
 have hz:ox q 118 [R ((Z (a.map qz):G)-((Z g:G)-1))] 44 .q (bc m 0):=by rw[ez];exact M8 m O
 refine F<|rc J J hi (z J<|F<|Bq J J hz<|z J ?_) (hp:=aF)
 refine j<|N J ?_
 rw[fo]
 have A:=xJ inv a g n m
 refine au<|a8 (α:=Y) (λf=>⟨[(1,I .q g),(7,.c<|.X 2002000),(8,R n),(9,.c<|.P 6008000 0),(11,.c<|.X 7004000),(12,R<|(m:G)-1-f)],[(7004000,.vec 44 .q (dC inv a g n m f).1),(6008000,.box 44 0<|av .q inv),(2002000,.vec 44 .q (dC inv a g n m f).2)],9,[]⟩) (λf=>f<=m) (λf=>m-f) 0 (aY _) (wk ⟨sR J,sR J,sE J ?_,sR J,sR J,sE J ?_,h⟩ ⟨bR J,bE J J,bR J,h⟩) ?_
 .exact je (O:(Z g:G)-1=(n:G))
 .exact je (O:(m:G)-1=(m:G)-1-((0:Y):G))
 intro f hj
 let ⟨hq,hr⟩:=A f
 have o:=hS f hj
 have v:dC inv a g n m (f+1)=((dC inv a g n m f).1.set (m-1-f)<|(dC inv a g n m f).2.getD (m-1-f+n) 0*inv,jz (dC inv a g n m f).2 (-((dC inv a g n m f).2.getD (m-1-f+n) 0*inv)) g<|m-1-f):=rfl
 refine j<|N J<|al J (λp=>?_)<|λp=>?_
 .have p:f<m:=by have p:(m:G)-1-f>=0:=aU p;omega
  generalize dC inv a g n m f=S at*;let ⟨K,u⟩:=S;simp only at hq hr o v;have f1:af ((m:G)-1-f)=m-1-f:=O;have f2:af ((m:G)-1-f+n)=m-1-f+n:=O;have k:=aau (E u (af<|(m:G)-1-f+n) 0) inv (o _) y O;have w:QS (2*s) (E u (m-1-f+n) 0*inv):=(o _).mul y;generalize B:E u (m-1-f+n) 0*inv=t at*;have k:r q 72 [aQ (E u (af<|(m:G)-1-f+n) 0),aQ inv] (aQ t):=by
   have e:E u (af<|(m:G)-1-f+n) 0*inv=t:=by rw[f2];exact B
   rwa[e]at k
  have M:(K.set (af<|(m:G)-1-f) t).getD (af<|(m:G)-1-f) 0=t:=by rw[BT _ _ O,b J]
  have C:r q 71 [aQ ((K.set (af<|(m:G)-1-f) t).getD (af<|(m:G)-1-f) 0)] (aQ<| -t):=by rw[M];exact al6 t<|w.n.sm O
  have Q:=M9 (s:=2*s) O u (-t) g (m-1-f) O O (λi=>(o i).le O) w.neg<|λi=>(L i).le O;have H:ui q 119 [.c (.X 0),aQ<| -t,I .q g,R<|(m:G)-1-f] 44 .q u (.t []) (jz u (-t) g<|m-1-f):=by rw[(O:(m:G)-1-f=((m-1-f:Y):G))];exact Q
  refine cP<|aL<|j<|au<|F<|rc J J k<|vO (T:= .q) t J J J J J ?_ (z J (cu<|rc J J C<|y6 2002000 J H J J (z J<|bw<|rt J (hp:=aF)<|aT (f+1) p (O:m-(f+1)<m-f)<|wk ⟨sR J,sR J,sR J,sR J,sR J,sE J ?_,h⟩ ⟨bE J ?_,bR J,bE J ?_,h⟩) (hp:=?_)) (hp:=?_)) (hp:=?_)
  .show af ((m:G)-1-f)<Z K;omega
  .exact je (O:(m:G)-1-f-1=(m:G)-1-((f+1:Y):G))
  .rw[v,f1]
  .rw[v]
  .simp only[Pr.an,Pr.h,num,gT,true_and,and_true];first|done|omega
  .simp only[Pr.an,Pr.h,num,gT,true_and,and_true];first|done|omega
  .show 0<=(m:G)-1-f/\(m:G)-1-f<(Z K:G);omega
 .have p:f=m:=by have p:¬(m:G)-1-f>=0:=a6 p;omega
  subst p;refine a7<|aL<|cY 7004000 J J J<|cY 2002000 J J J ?_;have U:=It (dC inv a g n f f).1 O;have W:=It (c n (dC inv a g n f f).2) BI;exact F<|rc J J U<|rc J J W (z J<|cw J) (hp:=aF)
def amv T y:bl (.t<|(ah,[.V (.slice none 0 0)])::y) (.t<|(ah,[.S T []])::y):=by
 refine⟨λg v h=>?_,λi h=>?_⟩
 .let ⟨vs,e,h⟩:=h;obtain⟨a,r,rfl,d,f⟩:=h;exact⟨_,e,_,_,J,(bl.nil T).1 g a d,f⟩
 .simpa[AV.ak,eW,bV,C.ak]using h
def amw(a f:V e)(i:Z a<Z f)(o:Z f<=1000):
  r q 65 [I .q a,I .q f] (.t [(ah,[.S .q []]),(ah,[.S .q a]),(ah,[.I .i64 0])]):=by
 refine aI Tryz.func65 ?_
 refine N J<|j<|N J<|al J (λd=>?_)<|λd=>aD ?_
 .have d:(Z f:G)=0:=eq_of_beq d;exact absurd d O
 refine F<|rm ZZ (Z a) J J J J J J Rl J ?_ ?_<|z J ?_
 .show Z a*64<=_;omega
 .show Z a*4<=_;omega
 refine eP (st':=⟨[(0,.c<|.S ZZ<|a.map qz),(1,I .q f),(7,.c<|.X 2002000)],[(2002000,.vec 44 ZZ<|bc (Z a) (0,0))],3,[]⟩) (wk ⟨⟨_,J,aaB a⟩,sR J,sR J,h⟩ ⟨bR J,h⟩) ?_
 refine jH ⟨[(0,.c<|.S ZZ<|a.map qz),(1,I .q f),(7,.c<|.X 2002000)],[(2002000,.vec 44 .q a)],4,[]⟩ ?_<|λg=>?_
 .refine N J (j<|N J<|al J (λd=>?_)<|λd=>?_)
  .exact cY 2002000 J J J<|N J<|bL<|cK<|ig cv J<|amv _ _
  .have d:¬(Z (a.map qz):G)<=(Z f:G)-1:=a6 d;rw[cy]at d;exact absurd i O
 .by_cases k:a=[]
  .subst k;exact cu<|amt J J J J J<|z J<|dB g<|wk (bO J) ⟨⟨_,J,M7 44 []⟩,h⟩
  .have l:=bQ.2 k;have m:SW qz a++List.drop (Z<|SW qz a) (bc (Z a) ((0,0):G×G))=a.map qz:=by rw[cy,SV,lH,DV,iD]
   refine cu<|LR J J J J J (by rw[fo,cy];omega) (λn=>by have:=be Z n;rw[fo,nb]at this;omega)<|z J<|dB g<|wk (bO J) ⟨⟨_,J,by rw[m];exact M7 44 a⟩,h⟩
end Go.El
