/- Contracts: modular numbers of the reference; lists of numbers modulo p. Own work; no condition. -/
import Derived.Test.YtceihkmakfdcnaaGreatB8
import Derived.Test.YtceihkmakfdcnaaGreatB7
set_option linter.all false
set_option maxHeartbeats 16000000
set_option maxRecDepth 100000
open Go.El renaming rr->e,cS->S,K0->F,re->z,dj->j,cI->O,rb->R
open Go.Proofs.Tryz renaming prog->c
open Int renaming toNat->af,natAbs->aA,mul_zero->Jl,le_of_eq->acY,natAbs_mul_self->aoJ
open List renaming getD->I,length->Z,take->M,range->cw,replicate->bl,getElem?_append->aoj
open Nat renaming dvd_mul_left_of_dvd->aoL
open Rat renaming sub_eq_add_neg->aoo,add_neg_cancel->aop,natCast_add->acM
open _root_ renaming Nat->V,Int->Y,List->E,Rat->N
namespace Go.El
open Go Go.Proofs
def aoa(a n p:V)(u:n<18446744073709551616)(d:0<p)(s:p<=4294967296):ao c 284 [cU a,cU n,cU p] (cU<|uM a n p):=by
 refine aL Tryz.func284 ?_;have v:(p:Y)≠0:=G;refine e J<|e J (hp:=aF)<|e J (hp:=aF)<|j<|e J ?_;refine az<|bq (α:=V×V×V×V) (λx=>⟨[(2,cU p),(7,cU x.2.1),(8,cU x.2.2.1),(9,cU x.2.2.2)],[],4,[]⟩) (λx=>rN x.1 x.2.1 x.2.2.1 x.2.2.2 p=uM a n p/\x.2.2.2<2^x.1/\x.2.1<p/\x.2.2.1<p/\x.2.2.2<18446744073709551616) (λx=>x.2.2.2) (64,1%p,a%p,n) ⟨J,u,fN _ d,fN _ d,u⟩ (wk ⟨sR J,sE J ?_,sE J ?_,sR J,A⟩ A) ?_
 .exact bP<|mI 1 p
 .exact bP<|mI a p
 .rintro⟨f,r,b,m⟩ ⟨g,hm,t,i,h⟩;simp only at g hm t i h;refine j (e J<|F J (λk=>?_)<|λk=>?_)
  .have k:(m:Y)>0:=aW k;cases f with
   |zero=>rw[oC]at hm;omega
   |succ f=>
    have l:m/2<2^f:=by rw[fQ]at hm;omega
    rw[rN,y G]at g
    have w:(m:Y).tmod 2=((m%2:V):Y):=mI m 2
    refine aE<|j<|az<|j<|e J (hp:=aF)<|F J (λo=>?_)<|λo=>?_
    .have o:(m:Y).tmod 2=1:=eq_of_beq o;rw[q G]at g;refine rt J (hp:=aF) (aK<|rt J (hp:=aF)<|bL<|rt J (hp:=aF)<|a4 (f,r*b%p,b*b%p,m/2) ⟨g,l,fN _ d,fN _ d,NG⟩ NH<|wk ⟨sR J,sE J ?_,sE J ?_,sE J ?_,A⟩ A)
     .exact bP<|Fo r b p t i s
     .exact bP<|Fo b b p i i s
     .exact bP<|Ce m h
    .have o:(m:Y).tmod 2≠1:=nY o;rw[y G]at g;refine aE (rt J (hp:=aF)<|bL<|rt J (hp:=aF)<|a4 (f,r,b*b%p,m/2) ⟨g,l,t,fN _ d,NG⟩ NH<|wk ⟨sR J,sR J,sE J ?_,sE J ?_,A⟩ A)
     .exact bP<|Fo b b p i i s
     .exact bP<|Ce m h
  .have k:¬(m:Y)>0:=bc k;have:m=0:=G;subst this;refine bt<|aK<|e J<|bY J ?_;rw[<-g];cases f with
   |zero=>rfl
   |succ f=>rw[rN,q J]
def Up a p(d:0<=a/\a<p)(i:a≠0)(f:2<=p)(k:p<=2147483648):ao c 248 [cU a,cU p] (.t [(false,[.I .u64 (jc (af a) (af p):V)]),(false,[.I .i64 0])]):=by
 obtain⟨a,rfl⟩:=Cc d.1;obtain⟨p,rfl⟩:=Cc (G:0<=p);rw[cr,cr];refine aL Tryz.func248 ?_;have g:(p:Y)≠0:=G;refine e J<|j<|e J (hp:=aF)<|F J (λb=>?_)<|λb=>aE ?_
 .exfalso;have b:(a:Y).tmod (p:Y)=0:=eq_of_beq b;rw[mI,oY G]at b;omega
 .have h:ao c 284 [cU a,.c (num .u64<|(p:Y)-2).1,cU p] (cU<|uM a (p-2) p):=by rw[show(AV.c (num .u64<|(p:Y)-2).1)=cU ((p-2:V):Y)from bP<|(wrap_u64 _ G G).trans G];exact aoa a (p-2) p G G G
  exact bH J J h J<|c7 J
def IU(a:E Y)(i:V):ao c 285 [S ar a,O i] (cU<|I a i 0):=by
 refine aL Tryz.func285 ?_;refine e J<|j<|e J<|F J (λh=>?_)<|λh=>aE ?_
 .have h:(i:Y)<(Z a:Y):=aW h;refine e J (hp:=aF)<|bV<|cQ<|fg J<|bP ?_;rw[cr]
 .have h:¬(i:Y)<(Z a:Y):=bc h;refine e J<|bY J<|bP ?_;rw[aN,jS G];rfl
def md(p:Y)(a:E Y):E Y:=a.map (·%p)
def xV p a:(md p a).length=Z a:=cT _
def getD_map{f:Y->Y}(b:f 0=0) a i:I (a.map f) i 0=f (I a i 0):=by
 rw[aN,iN,aN];cases a[i]? with
 |none=>exact b.symm
 |some x=>rfl
def IV p a i:(md p a).getD i 0=I a i 0%p:=getD_map (gZ p) a i
def Ck{p}(b:0<p) a:rp p (md p a):=λi=>by rw[IV];exact⟨iP _ G,iR _ b⟩
def IW{p}{a}(h:rp p a):md p a=a:=by refine tQ (xV p a)<|λi d b=>?_;have:=h i;rw[aN,cO b,rv]at this;simp only[md,Bd];exact gX this.1 this.2
def rR(a:E Y) i(h:i<Z a):M (i+1) a=M i a++[I a i 0]:=by rw[sW,aN,cO h];rfl
def xW(a:E Y) p(n:Z a<=1000000)(g:0<p)(o:p<18446744073709551616)(l:∀i,0<=I a i 0):ao c 203 [S ar a,cU p] (S ar<|aM<|md p a):=by
 refine aL Tryz.func203 ?_;have m:=xV p a;refine e J<|R<|gP ar [] J J (z J<|dj<|e J ?_);refine az<|bq (α:=V) (λi=>⟨[(0,S ar a),(1,cU p),(5,.c<|.X 1000000),(6,O i)],[(1000000,.vec 150 ar<|(md p a).take i)],3,[]⟩) (λi=>i<=Z a) (λi=>Z a-i) 0 (bf _) aV ?_
 .intro i s;refine dj (e J<|F J (λh=>?_)<|λh=>?_)
  .have h:i<Z a:=by have h:(i:Y)<(Z a:Y):=aW h;omega
   have t:Z ((md p a).take i)=i:=bX;refine aE<|dj<|az<|cK ?_;refine rl ar [_] J J (hp:=aF) (ra J J J J J J J J J ?_ ?_<|z J ?_)
   .show(_+1+(_+1)/4+192)*8<=_;omega
   .show(_+1)*1<=_;omega
   refine bL<|rt J<|a4 (i+1) h qy<|Wk.trans (wk (st':=⟨[(0,S ar a),(1,cU p),(5,.c<|.X 4008000),(6,O ((i+1:V):Y))],[(4008000,.vec 150 ar<|(md p a).take<|i+1)],8,[]⟩) (bM J) ⟨bE J ?_,A⟩)<|Wk.trans (gW 1000000 4008000 J J J) aV;refine bh (aD.vec 150 ar) ?_;rw[rR _ i G,IV,cr,lX<|l i]
  .have h:i=Z a:=by have h:¬(i:Y)<(Z a:Y):=bc h;omega
   subst h;refine bt<|aK<|da 1000000 J J J ?_;generalize u:md p a=L at*;refine dj<|az<|bq (α:=V) (λk=>⟨[(5,S ar<|M k L)],[],10,[]⟩) (λk=>k<=Z L/\fZ L k=fZ L (Z L)) (λk=>k) (Z L) ⟨aT _,J⟩ (wk ⟨sE J ?_,A⟩ A) ?_
   .rw[iY (G:Z L<=Z a),gQ];rfl
   rintro k ⟨v,b⟩;have d:(M k L).length=k:=bX;refine dj<|R ?_;refine rg 26 J J (λh=>?_)<|λh=>?_
   .have h:0<k:=by have h:(((M k L).length:V):Y)>0:=aW h;rw[d]at h;omega
    obtain⟨j,rfl⟩:∃j,k=j+1:=⟨k-1,G⟩;have f:af (((M (j+1) L).length:Y)-1)=j:=by rw[d];omega
    have ev:(M (j+1) L).getD j 0=I L j 0:=by rw[aN,GV G,<-aN]
    refine z J (hp:=aF)<|F J (λh2=>?_)<|λh2=>?_
    .have h2:I L j 0=0:=by have h2:(M (j+1) L).getD (af<|((M (j+1) L).length:Y)-1) 0=0:=eq_of_beq h2;rwa[f,ev]at h2
     refine aE<|az<|rt J (hp:=aF)<|fB<|a4 j ⟨G,?_⟩ sY<|wk ⟨sE J ?_,A⟩ A
     .rw[<-b,fZ,q h2]
     .rw[f];simp only[qh,List.take_take];rw[sK G]
    .have h2:I L j 0≠0:=by have h2:(M (j+1) L).getD (af<|((M (j+1) L).length:Y)-1) 0≠0:=nY h2;rwa[f,ev]at h2
     refine bt<|aK<|e J<|bY J ?_;unfold aM;rw[<-b,fZ,y h2]
   .have h:k=0:=by have h:¬(((M k L).length:V):Y)>0:=bc h;rw[d]at h;omega
    subst h;refine z J<|F J (λh2=>qJ)<|λ_=>?_;refine bt<|aK<|e J<|bY J ?_;unfold aM;rw[<-b];rfl
def uQ a b p(H:Z a<=1000)(L:Z b<=1000)(d:0<p)(o:p<=2147483648)(s:rp p a)(t:rp p b):ao c 249 [S ar a,S ar b,cU p] (S ar<|cL a b p):=by
 refine aL Tryz.func249 ?_;have k:a=[]\/b=[]->S ar []=S ar (cL a b p):=λh=>by rw[cL,q h]
 refine e J<|dj<|R ?_;refine rg 13 J J (λh=>?_)<|λh=>?_
 .have h:a=[]:=by simpa using h
  refine z J<|F J (λh2=>?_)<|λh2=>qJ;exact e J<|bV<|cQ<|iJ cv J<|bg.trans (bg.nil ar)<|bg.of_eq<|k<|.inl h
 .have h:a≠[]:=by simpa using h
  refine z J<|F J (λh2=>?_)<|λh2=>?_
  .have h2:b=[]:=by simpa using h2
   exact e J<|bV<|cQ<|iJ cv J<|bg.trans (bg.nil ar)<|bg.of_eq<|k<|.inr h2
  .have h2:b≠[]:=by simpa using h2
   have C:=cR.2 h;have K:=cR.2 h2;refine aE<|R ?_;refine rm ar (Z a+Z b-1) J J J J J J (mE .u64) G ?_ ?_ ?_
   .show _*8<=_;omega
   .show _*1<=_;omega
   refine z J<|dj<|e J ?_;refine az<|bq (α:=V) (λi=>⟨[(0,S ar a),(1,S ar b),(2,cU p),(7,.c<|.X 2006000),(8,O i)],[(2006000,.vec 150 ar<|mJ a b p i)],4,[]⟩) (λi=>i<=Z a) (λi=>Z a-i) 0 (bf _) aV ?_;intro i P;have u:=II a b p i;refine dj<|e J<|F J (λf=>?_)<|λf=>?_
   .have f:i<Z a:=by have f:(i:Y)<(Z a:Y):=aW f;omega
    refine aE<|dj<|az<|e J ?_;refine az<|bq (α:=V) (λj=>⟨[(0,S ar a),(1,S ar b),(2,cU p),(7,.c<|.X 2006000),(8,O i),(9,O j)],[(2006000,.vec 150 ar<|rO a b p i j<|mJ a b p i)],7,[]⟩) (λj=>j<=Z b) (λj=>Z b-j) 0 (bf _) aV ?_;intro j Q;have v:=IG a b p i (mJ a b p i) j;refine dj<|e J<|F J (λg=>?_)<|λg=>?_
    .have g:j<Z b:=by have g:(j:Y)<(Z b:Y):=aW g;omega
     have w:=s i;have x:=t j;have gr:=NJ d (a:=a) (b:=b) i (IJ a b d i) j<|i+j;have l:af ((i:Y)+(j:Y))=i+j:=G;refine aE<|dj<|az<|rt J (hp:=aF) ?_;refine bL<|rt J<|a4 (j+1) g Uc<|wk (bM J) ⟨bE J ?_,A⟩;refine bh (aD.vec 150 ar) ?_;rw[rO,l,<-ab3 _ _ _ p gr w x o];rfl
    .have g:j=Z b:=by have g:¬(j:Y)<(Z b:Y):=bc g;omega
     subst g;exact bt<|bL<|rt J<|a4 (i+1) f qy<|wk (bM J) ⟨bE J J,A⟩
   .have f:i=Z a:=by have f:¬(i:Y)<(Z a:Y):=bc f;omega
    subst f;have m:=IJ a b d<|Z a;have n:=xW (mJ a b p<|Z a) p G d G<|λi=>(m i).1;rw[IW m]at n;refine bt<|aK<|da 2006000 J J J<|bH J J n J<|bY J ?_;rw[cL,y<|λB=>B.elim h h2]
def gh(a b:E Y)(p:Y):E Y:=(cw<|max (Z a)<|Z b).map λi=>(I a i 0+p-I b i 0)%p
def NU a b p:Z (gh a b p)=max (Z a) (Z b):=by simp[gh]
def Cm{p}(d:0<p) a b:rp p (gh a b p):=λi=>by
 unfold gh;rw[aN,iN];by_cases h:i<max (Z a) (Z b)
 .rw[jV h];exact⟨iP _ G,iR _ d⟩
 .rw[jS bX];exact⟨hY _,d⟩
def IX a b p(x:Z a<=1000)(B:Z b<=1000)(k:0<p)(H:p<=2147483648)(o:rp p a)(s:rp p b):ao c 252 [S ar a,S ar b,cU p] (S ar<|aM<|gh a b p):=by
 refine aL Tryz.func252 ?_;generalize hM:max (Z a) (Z b)=M;have v:M<=1000:=G;let L:=(cw M).map λi=>I a i 0+p-I b i 0
 have C:Z L=M:=by simp[L]
 have d:∀i,i<M->I L i 0=I a i 0+p-I b i 0:=λi t=>by simp only[L];rw[aN,iN,jV t];rfl
 have l:md p L=gh a b p:=by simp only[L,md,gh,Mf,hM];rfl
 have m:∀i,0<=I L i 0:=λi=>by
  by_cases h:i<M
  .rw[d i h];have w:=o i;have h2:=s i;omega
  .rw[aN,jS G];exact hY _
 clear_value L;refine e J<|R<|gP ar [] J J (z J<|j<|e J ?_);refine az<|bq (α:=V) (λi=>⟨[(0,S ar a),(1,S ar b),(2,cU p),(7,.c<|.X 1000000),(8,O i)],[(1000000,.vec 150 ar<|List.take i L)],3,[]⟩) (λi=>i<=M) (λi=>M-i) 0 (bf _) aV ?_;intro i t;have K:(List.take i L).length=i:=bX;by_cases f:i<M
 .refine nX ⟨[(0,S ar a),(1,S ar b),(2,cU p),(7,.c<|.X 1000000),(8,O i)],[(1000000,.vec 150 ar<|List.take i L)],4,[]⟩ ?_ (λg=>R<|rg 14 J J (λh=>z J<|F J (λ_=>dc<|fJ g aV)<|λh2=>qJ)<|λh=>z J<|F J (λ_=>dc<|fJ g aV)<|λh2=>?_)
  .have w:=o i;have h2:=s i;refine j<|az<|cK ?_;refine rc J J (IU a i)<|rc J J (IU b i) ?_;refine rl ar [_] J J (ra J J J J J J J J J ?_ ?_<|z J ?_)
   .show(_+1+(_+1)/4+192)*8<=_;omega
   .show(_+1)*1<=_;omega
   refine bL<|rt J<|a4 (i+1) f xJ<|Wk.trans (wk (st':=⟨[(0,S ar a),(1,S ar b),(2,cU p),(7,.c<|.X 4011000),(8,O ((i+1:V):Y))],[(4011000,.vec 150 ar<|List.take (i+1) L)],8,[]⟩) (bM J) ⟨bE J ?_,A⟩)<|Wk.trans (gW 1000000 4011000 J J J) aV;refine bh (aD.vec 150 ar) ?_;rw[rR _ i G,d i f,wrap_u64 (I a i 0+p) G G,wrap_u64 _ G G]
  .exfalso;have h:¬(i:Y)<(Z a:Y):=bc h;have h2:¬(i:Y)<(Z b:Y):=bc h2;omega
 .have n:i=M:=by omega
  subst n;have u:=xW L p G k G m;rw[l]at u;refine j<|R<|rg 14 J J (λh=>?_)<|λh=>?_
  .exfalso;have h:(i:Y)<(Z a:Y):=aW h;omega
  .refine z J (F J (λh2=>?_)<|λh2=>?_)
   .exfalso;have h2:(i:Y)<(Z b:Y):=aW h2;omega
   .rw[iY G];exact bt<|aK<|da 1000000 J J J<|bH J J u J<|c7 J
def bx(p:Y)(a:E Y):Prop:=rp p a/\can a
def acn(a:E Y):∀n i,fZ a n<=i->i<n->I a i 0=0
 |0,i,_,h=>by omega
 |n+1,i,b,h2=>by
  rw[fZ]at b;split at b
  .rename_i h;by_cases d:i=n
   .rw[d];exact h
   .exact acn a n i b G
  .omega
def IZ(a:E Y) n i:(M n a).getD i 0=if i<n then I a i 0 else 0:=by
 rw[aN,GU];split
 .rw[aN]
 .rfl
def fh(a:E Y){i}(h:Z a<=i):I a i 0=0:=by rw[aN,jS h];rfl
def qK a:ps (aM a)=ps a:=PS.ext λi=>by
 rw[cG,cG,aM,IZ];split
 .rfl
 .rename_i h;by_cases e:i<Z a
  .exact(acn a (Z a) i G e).symm
  .exact(fh a G).symm
def Uq{p}(b:0<p){a}(h:rp p a) n:rp p (M n a):=λi=>by
 rw[IZ];split
 .exact h i
 .exact⟨hY _,b⟩
def aco{p}(b:0<p){a}(h:rp p a):rp p (aM a):=Uq b h _
def kZ{p}(b:0<p){a}(h:rp p a):bx p (aM a):=⟨aco b h,Io a⟩
def rU{p}(a:0<p):bx p []:=⟨λi=>by simp;exact a,.inl J⟩
def pa a:Z (aM a)<=Z a:=by unfold aM;rw[gL];omega
def wj{a}(h:can a):aM a=a:=by
 have:fZ a (Z a)=Z a:=by
  cases hl:Z a with
  |zero=>rfl
  |succ n=>
   rw[fZ,y]
   rcases h with h|h
   .rw[h]at hl;cases hl
   .rw[hl]at h;exact h
 rw[aM,this,gQ]
def bx.top{p}{a}(h:bx p a){n}(b:Z a=n+1):I a n 0%p≠0:=by
 rcases h.2 with e|e
 .rw[e]at b;cases b
 .rw[b,eE]at e;have:=h.1 n;rw[gX this.1 this.2];exact e
def bx.len{p}{a}(h:bx p a){n}(b:Dl p n (ps a)):Z a<=n:=by
 by_cases e:Z a<=n
 .exact e
 .obtain⟨m,d⟩:∃m,Z a=m+1:=⟨Z a-1,G⟩;exact absurd (b m G)<|h.top d
def NV{p}{a b}(d:bx p a)(f:bx p b)(h:Cg p (ps a) (ps b)):a=b:=by have o:=d.len<|(kY p b).cg h.symm;have s:=f.len<|(kY p a).cg h;refine tQ G<|λi m n=>?_;have g:=h.at i;have k:=d.1 i;have l:=f.1 i;rw[cG,cG,gX k.1 k.2,gX l.1 l.2,aN,aN,cO m,cO n]at g;exact g
def acp p a:Cg p (ps<|md p a) (ps a):=Cg.of λi=>by rw[cG,cG,IV,mM]
def Cn:ps []=0:=PS.ext λi=>by rw[cG,PS.l3];rfl
def I1{a}{k}v(h:k<Z a):ps (a.set k v)=ps a+PS.K (v-I a k 0)*PS.X k:=PS.ext λi=>by
 rw[PS.eo,PS.fp,cG,cG,uH _ _ _ _ h];unfold PS.X;split
 .rename_i e;first
   | (subst e;simp;omega)
   | (rw[e];simp;omega)
 .rename_i e;rw[y (λh=>e h.symm)];omega
def I2 a i:ps (M (i+1) a)=ps (M i a)+PS.K (I a i 0)*PS.X i:=PS.ext λj=>by
 rw[PS.eo,PS.fp,cG,cG,IZ,IZ];unfold PS.X;by_cases h:j<i
 .rw[q h,q G,y G];omega
 .by_cases e:j=i
  .subst e;rw[q G,y G,q J];omega
  .rw[y G,y G,y e];omega
def I3 a:ps (M 0 a)=0:=by rw[Fl,Cn]
def NW:ps [1]=1:=PS.ext λi=>by
 cases i with
 |zero=>rfl
 |succ i=>rfl
def NX n:ps (bl n 0)=0:=PS.ext λi=>by rw[cG,PS.l3,aN,lY];split<;>rfl
def Cg.acq{p a b}(h:a%p=b%p) d:Cg p (PS.K a*d) (PS.K b*d):=(Cg.K h).Ch d
def acr(a b:E Y)(p:Y)(i:V)(f:E Y):∀d,i+d<=Z f->Cg p (ps<|rO a b p i d f) (ps f+PS.K (I a i 0)*PS.X i*ps (M d b))
 |0,_=>by rw[rO,I3,PS.mul_zero,PS.add_zero];exact Cg.refl _ _
 |d+1,h=>by
  have g:=acr a b p i f d G;rw[rO,I1 _ (by rw[IG];omega),I2,PS.mul_add,<-PS.add_assoc];refine g.add ?_;have e:PS.K (I a i 0)*PS.X i*(PS.K (I b d 0)*PS.X d)=PS.K (I a i 0*I b d 0)*PS.X (i+d):=by rw[PS.zM,PS.Fq];ac_rfl
  rw[e];refine Cg.acq ?_ _;rw[xX,mM,<-xX];congr 1;omega
def acs(a b:E Y)(p:Y):∀i,i<=Z a->Cg p (ps<|mJ a b p i) (ps (M i a)*ps b)
 |0,_=>by rw[mJ,NX,I3,PS.zero_mul];exact Cg.refl _ _
 |i+1,h=>by have f:=acs a b p i G;have d:=acr a b p i (mJ a b p i) (Z b) (by rw[II];omega);rw[gQ]at d;rw[mJ,I2,PS.add_mul];exact d.trans<|f.Fs _
def Fz a b p:Cg p (ps<|cL a b p) (ps a*ps b):=by
 unfold cL;split
 .rename_i h;rcases h with h|h
  .rw[h,Cn,PS.zero_mul];exact Cg.refl _ _
  .rw[h,Cn,PS.mul_zero];exact Cg.refl _ _
 .rw[qK];have:=acs a b p (Z a)<|aT _;rwa[gQ]at this
def nk{p}(d:0<p) a b:bx p (cL a b p):=by
 unfold cL;split
 .exact rU d
 .exact kZ d<|IJ a b d _
def wm a b p:Z (cL a b p)<=Z a+Z b-1:=by
 unfold cL;split
 .exact bf _
 .have:=pa<|mJ a b p<|Z a;rwa[II]at this
def acu a b p:Cg p (ps<|aM<|gh a b p) (ps a-ps b):=by
 rw[qK];refine Cg.of λi=>?_
 rw[PS.uO,cG,cG,cG,gh,aN,iN];by_cases h:i<max (Z a) (Z b)
 .rw[jV h];show((I a i 0+p-I b i 0)%p)%p=_;rw[mM,(G:I a i 0+p-I b i 0=I a i 0-I b i 0+p),Int.add_emod_right]
 .rw[jS bX,fh a G,fh b G];rfl
def FA{p:Y}{A:PS}:∀{m:V},Dl p m A->Cg p A 0\/∃d,d<m/\A d%p≠0/\Dl p (d+1) A
 |0,h=> .inl<|an0 h
 |m+1,h=>by
  by_cases a:A m%p=0
  .rcases FA (m:=m) (A:=A) (p:=p) (λi k=>by
    by_cases f:i=m
    .rw[f];exact a
    .exact h i G)with b|⟨d,b,h2,g⟩
   .exact .inl b
   .exact .inr ⟨d,G,h2,g⟩
  .exact .inr ⟨m,G,a,h⟩
def Cp{p:V}(f:dE p){a B:PS}{d b:V}(g:Dl p (d+1) a)(h:Dl p (b+1) B)(i:a d%p≠0)(k:B b%p≠0):(a*B) (d+b)%(p:Y)≠0:=by rw[g.top h];exact f.nZ i k
def aob{p}(f:dE p){a B}{m n}(g:Dl p m a)(i:Dl p (n+1) B)(k:B n%p≠0)(h:Dl p n (a*B)):Cg p a 0:=by
 rcases FA g with b|⟨d,b,h2,l⟩
 .exact b
 .exact absurd (h (d+n) G)<|Cp f l i h2 k
def aoc{p}(o:dE p){Q a b d B}{m n}(s:Dl p (n+1) B)(t:B n%p≠0)(u:Dl p m Q)(f:Dl p m b)(v:Dl p n a)(g:Dl p n d)(h:Cg p (Q*B+a) (b*B+d)):Cg p Q b/\Cg p a d:=by
 have e:Cg p ((Q-b)*B) (d-a):=by
  have w:(Q-b)*B=(Q*B+a)+ -(b*B+a):=by rw[PS.sub_def,PS.add_mul,PS.neg_mul,PS.neg_add];have:Q*B+a+(-(b*B)+ -a)=Q*B+ -(b*B)+(a+ -a):=fq;rw[this,PS.add_neg,PS.add_zero]
  have x:d-a=(b*B+d)+ -(b*B+a):=by rw[PS.sub_def,PS.neg_add];have:b*B+d+(-(b*B)+ -a)=b*B+ -(b*B)+(d+ -a):=fq;rw[this,PS.add_neg,PS.zero_add]
  rw[w,x];exact h.Fs _
 have l:=aob o (u.sub f) s t<|(g.sub v).cg e.symm;have i:Cg p Q b:=by
  have:=l.Fs b;have k:Q-b+b=Q:=by rw[PS.sub_def,PS.add_assoc,PS.ab',PS.add_zero]
  rwa[k,PS.zero_add]at this
 refine⟨i,?_⟩;have C:Cg p (d-a) 0:=by have:=l.Ch B;rw[PS.zero_mul]at this;exact e.symm.trans this
 have:=C.Fs a;have k:d-a+a=d:=by rw[PS.sub_def,PS.add_assoc,PS.ab',PS.add_zero]
 rw[k,PS.zero_add]at this;exact this.symm
def aod{p}(f:dE p){a B}{m n}(l:Dl p m a)(o:Dl p n B)(h:Cg p (a*B) 1):Dl p 1 a:=by
 have b:¬(1:Y)%(p:Y)=0:=by have:=f.1;rw[gX D G];decide
 have g:¬Cg p (a*B) 0:=λe=>b (by have:=(e.symm.trans h).at 0;rw[PS.l3,gZ]at this;exact this.symm)
 rcases FA l with s|⟨d,_,h2,i⟩
 .exact absurd (by have:=s.Ch B;rwa[PS.zero_mul]at this) g
 .rcases FA o with t|⟨e,_,u,v⟩
  .exact absurd (by have:=t.IN a;rwa[PS.mul_zero]at this) g
  .have k:=Cp f i v h2 u;rw[h.at (d+e)]at k;by_cases w:d=0
   .subst w;exact i
   .exact absurd (acd (p:Y) (d+e) G) k
def acv(b:E Y)(p d:Y)(i:V)(f:E Y):∀a,i+a<=Z f->Cg p (ps<|uN b p d i a f) (ps f-PS.K d*PS.X i*ps (M a b))
 |0,_=>by rw[uN,I3,PS.mul_zero,PS.sub_def,PS.neg_zero,PS.add_zero];exact Cg.refl _ _
 |a+1,h=>by
  have g:=acv b p d i f a G;have e:ps f-PS.K d*PS.X i*ps (M (a+1) b)=(ps f-PS.K d*PS.X i*ps (M a b))+PS.K (-(d*I b a 0))*PS.X (i+a):=by
   rw[I2,PS.mul_add,PS.sub_def,PS.neg_add,PS.sub_def,<-PS.add_assoc];congr 1;have k:PS.K d*PS.X i*(PS.K (I b a 0)*PS.X a)=PS.K (d*I b a 0)*PS.X (i+a):=by rw[PS.zM,PS.Fq];ac_rfl
   rw[k,PS.neg_eq,<-PS.mul_assoc,<-PS.zM];congr 2;omega
  rw[uN,I1 _ (by rw[NK];omega),e];refine g.add<|Cg.acq ?_ _;rw[xX,mM,<-xX,show∀x:Y,x+(p-d)*I b a 0-x= -(d*I b a 0)+p*I b a 0 by intro x;rw[Iy];omega,Nu]
structure DvI(a b:E Y)(p:Y)(m n k:V)(x:E Y×E Y):Prop where
 cg:Cg p (ps a) (ps x.1*ps b+ps x.2)
 dl:Dl p (n+(m-k)) (ps x.2)
 z:∀d,d<m-k->x.1.getD d 0=0
def acw{p:Y}{a b:E Y}{v:Y}{n m:V}(t:Z b=n+1)(l:Z a=n+m)(o:I b n 0*v%p=1%p):∀k,k<=m->DvI a b p m n k (ia a b p v m n k)
 |0,_=>by
  refine⟨?_,?_,λd s=>?_⟩
  .rw[ia,NX,PS.zero_mul,PS.zero_add];exact Cg.refl _ _
  .rw[ia,BW,<-l];exact kY p a
  .rw[ia,aN,lY];split<;>rfl
 |k+1,H=>by
  have f:=acw t l o k G;have L:=NL a b p v m n k;obtain⟨i,P⟩:∃i,m=i+(k+1):=⟨m-(k+1),G⟩;have u:m-(k+1)=i:=G;rw[ia,u];generalize hx:ia a b p v m n k=x at*;generalize hc:I x.2 (i+n) 0*v%p=c;have g:=acv b p c i x.2 (Z b) G;rw[gQ]at g;have w:I x.1 i 0=0:=f.z i G;have B:ps (x.1.set i c)=ps x.1+PS.K c*PS.X i:=by rw[I1 c G,w,B3]
  refine⟨?_,?_,λd s=>?_⟩
  .simp only;rw[B];have h:ps x.1*ps b+ps x.2=(ps x.1+PS.K c*PS.X i)*ps b+(ps x.2-PS.K c*PS.X i*ps b):=by rw[PS.add_mul,PS.sub_def];have:ps x.1*ps b+PS.K c*PS.X i*ps b+(ps x.2+ -(PS.K c*PS.X i*ps b))=ps x.1*ps b+ps x.2+(PS.K c*PS.X i*ps b+ -(PS.K c*PS.X i*ps b)):=fq;rw[this,PS.add_neg,PS.add_zero]
   exact(f.cg.trans<|Cg.of_eq h).trans<|g.symm.aca _
  .simp only;refine Dl.cg (λd s=>?_) g.symm;rw[PS.uO,PS.mul_assoc,PS.fp,PS.mL];by_cases e:d=n+i
   .subst e;rw[q G,(G:n+i-i=n),cG,cG,<-hc,Lf i n];generalize I x.2 (n+i) 0=y;rw[xX,qG,mM,<-qG,jo,eW v,qG,o,<-qG,ni,Int.sub_self,gZ]
   .have h:=f.dl d G;have C:=kY p b (d-i) G;rw[q G,xX,h,qG,C,gY,gZ];rfl
  .simp only;rw[uH _ _ _ _ G];split
   .omega
   .exact f.z d G
def FB{p}(a:dE p)(b:p<=2147483648){x:Y}(d:0<=x)(h:x<p)(i:x≠0):x*((jc (af x) (af ((p:V):Y)):V):Y)%(p:Y)=1:=by
 obtain⟨y,rfl⟩:=Cc d;have k:=a.1;rw[cr,cr,aci y p G G];have f:¬p∣y:=λg=>by have:=wi G g;omega
 have l:=a.inv f;rw[<-fC];omega
def aof{p}{a}{n}(h:rp p a)(f:Dl p n (ps a)):ps (M n a)=ps a:=PS.ext λi=>by
 rw[cG,cG,IZ];split
 .rfl
 .have b:=f i G;have d:=h i;rw[cG,gX d.1 d.2]at b;exact b.symm
def l6{p}(s:dE p)(f:p<=2147483648){a b}(t:rp p a)(u:bx p b)(k:b≠[]):
  Cg p (ps a) (ps (aO a b p).1*ps b+ps (aO a b p).2)/\rp p (aO a b p).1/\rp p (aO a b p).2/\(aO a b p).2.length<=Z b-1/\(bx p a->bx p (aO a b p).2)/\(aO a b p).1.length=Z a-(Z b-1):=by
 have L:=s.1
 have d:(0:Y)<(p:Y):=G
 obtain⟨n,l⟩:∃n,Z b=n+1:=⟨Z b-1,by have:=cR.2 k;omega⟩
 rw[aO,l,eE]
 by_cases h:Z a<=n
 .rw[q h];refine⟨?_,(rU d).1,t,h,λC=>C,?_⟩
  .rw[Cn,PS.zero_mul,PS.zero_add];exact Cg.refl _ _
  .show 0=_;omega
 .rw[y h];obtain⟨m,w⟩:∃m,Z a=n+m:=⟨Z a-n,G⟩;rw[w,IK];have g:=u.1 n;have o:I b n 0≠0:=by have:=u.top l;exact λe=>this FC
  have H:=FB s f g.1 g.2 o;generalize ((jc (af<|I b n 0) (af ((p:V):Y)):V):Y)=v at*;have x:=acw (p:=p) (v:=v) l w (by rw[H,gX D G]) m<|aT _;have K:=NL a b p v m n m;have i:=Ue b v m n d t m;have B:=x.dl;rw[kg,jv]at B;refine⟨?_,i.1,aco d<|Uq d i.2 n,?_,λ_=>kZ d<|Uq d i.2 n,K.1⟩
  .simp only;rw[qK,aof i.2 B];exact x.cg
  .simp only;have:=pa<|(ia a b p v m n m).2.take n;rw[gL]at this;omega
def pe(p:Y):V->E Y->E Y->E Y
 |0,f,_=>f
 |k+1,f,g=>if g=[]then f else pe p k g (aO f g p).2
def lD(p:Y)(a:E Y):E Y:=if a=[]then[]else cL a [((jc (af<|I a (Z a-1) 0) (af p):V):Y)] p
def gk(p:Y)(f g:E Y):E Y:=lD p<|pe p (Z g+1) f g
def bp(p:Y)(a:PS):Prop:=∃n,Dl p n a
def bp.add{p}{a B}(h:bp p a)(k:bp p B):bp p (a+B):=by let ⟨n,h⟩:=h;let ⟨m,k⟩:=k;exact⟨max n m,(h.le G).add<|k.le G⟩
def bp.neg{p}{a}(h:bp p a):bp p (-a):=by let ⟨n,h⟩:=h;exact⟨n,h.neg⟩
def bp.sub{p}{a B}(h:bp p a)(k:bp p B):bp p (a-B):=by rw[PS.sub_def];exact h.add k.neg
def bp.mul{p}{a B}(h:bp p a)(k:bp p B):bp p (a*B):=by let ⟨n,h⟩:=h;let ⟨m,k⟩:=k;exact⟨n+m,h.mul' k⟩
def bp.ps p a:bp p (ps a):=⟨_,kY p a⟩
def bp.K p a:bp p (PS.K a):=⟨_,Ui p a⟩
def bp.zero p:bp p 0:=⟨0,an2 p 0⟩
def bp.one p:bp p 1:=⟨1,acd p⟩
def xY(p:Y)(a B:PS):Prop:=∃U V,bp p U/\bp p V/\Cg p (U*a+V*B) 1
def xY.step{p}{b B Q a}(h:xY p b B)(f:bp p Q)(g:Cg p b (Q*B+a)):xY p B a:=by
 let ⟨U,V,d,h2,i⟩:=h;refine⟨U*Q+V,U,(d.mul f).add h2,d,?_⟩;have:(U*Q+V)*B+U*a=U*(Q*B+a)+V*B:=by simp only[PS.mul_add,PS.add_mul];ac_rfl
 rw[this];exact((g.symm.IN U).Fs _).trans i
def xY.aog{p}{b B Q a}(h:xY p B a)(d:bp p Q)(f:Cg p b (Q*B+a)):xY p b B:=by
 let ⟨U,V,g,h2,i⟩:=h;refine⟨V,U-V*Q,h2,g.sub<|h2.mul d,?_⟩;have k:V*(Q*B+a)+(U-V*Q)*B=U*B+V*a:=by rw[PS.mul_add,PS.sub_def,PS.add_mul,PS.neg_mul];have:V*(Q*B)+V*a+(U*B+ -(V*Q*B))=(U*B+V*a)+(V*Q*B+ -(V*Q*B)):=fq;rw[this,PS.add_neg,PS.add_zero]
 exact((f.IN V).Fs _).trans<|(Cg.of_eq k).trans i
def Ur{p:V}(l:dE p)(a:p<=2147483648):∀(k:V)(f g:E Y),bx p f->bx p g->Z g<k->bx p (pe p k f g)/\(xY p (ps f) (ps g)↔Z (pe p k f g)=1)/\Z (pe p k f g)<=max (Z f) (Z g)
 |0,_,_,_,_,h=>by omega
 |k+1,f,g,d,hg,h=>by
  rw[pe];have B:=l.1;split
  .rename_i e;subst e;refine⟨d,⟨λb=>?_,λv=>?_⟩,G⟩
   .let ⟨U,C,o,H,b⟩:=b;rw[Cn,PS.mul_zero,PS.add_zero,PS.mul_comm]at b;let ⟨m,o⟩:=o;have t:=d.len<|aod l (kY p f) o b;by_cases e:Z f=0
    .exfalso;have:=gK e;subst this;rw[Cn,PS.zero_mul]at b;have:=b.at 0;rw[PS.l3,gZ]at this;have s:(1:Y)%(p:Y)=1:=gX D G;have u:(0:Y)=1%(p:Y):=this;omega
    .omega
   .have t:=d.top (n:=0) G;have s:=d.1 0;have u:I f 0 0≠0:=λe=>t FC
    have w:=FB l a s.1 s.2 u;refine⟨PS.K ((jc (I f 0 0).toNat (af ((p:V):Y)):V):Y),0,bp.K _ _,bp.zero _,?_⟩;rw[PS.zero_mul,PS.add_zero];have x:ps f=PS.K (I f 0 0):=PS.ext λi=>by
     unfold PS.K;split
     .rename_i e;subst e;rfl
     .exact fh f G
    rw[x,<-PS.zM,PS.IM,eW];exact Cg.K (by rw[w,gX D G])
  .rename_i e;let ⟨d1,d2,d3,d4,d5,d6⟩:=l6 l a d.1 hg e;have v:=cR.2 e;let ⟨i1,i2,i3⟩:=Ur l a k g (aO f g p).2 hg (d5 d) G;refine⟨i1,⟨λb=>i2.1<|b.step (bp.ps _ _) d1,λh=>(i2.2 h).aog (bp.ps _ _) d1⟩,G⟩
def Us{p}(l:dE p)(d:p<=2147483648){a}(m:bx p a)(o:a≠[]):bx p (lD p a)/\Z (lD p a)=Z a/\I (lD p a) (Z a-1) 0=1/\Cg p (ps<|lD p a) (ps a*PS.K ((jc (af<|I a (Z a-1) 0) (af ((p:V):Y)):V):Y))/\Cg p (ps a) (ps (lD p a)*PS.K (I a (Z a-1) 0)):=by
 have H:=l.1;obtain⟨n,s⟩:∃n,Z a=n+1:=⟨Z a-1,by have:=cR.2 o;omega⟩;have t:=m.1 n;have g:I a n 0≠0:=λe=>m.top s FC
 have u:=FB l d t.1 t.2 g;rw[lD,y o,s,eE];generalize ((jc (af<|I a n 0) (af ((p:V):Y)):V):Y)=v at*;have h:ps [v]=PS.K v:=PS.ext λi=>by
  cases i with
  |zero=>rfl
  |succ i=>rfl
 have f:=Fz a [v] p;rw[h]at f;have w:=nk (G:(0:Y)<p) a [v];have b:(ps<|cL a [v] p) n%(p:Y)=1:=by rw[f.at n,PS.mul_comm,PS.fp,eW,cG];exact u
 have B:n<Z (cL a [v] p):=by
  by_cases e:n<Z (cL a [v] p)
  .exact e
  .rw[cG,fh _ G]at b;simp at b
 have k:=wm a [v] p;have C:Z (cL a [v] p)=n+1:=by simp only[iI,sH]at k;omega
 refine⟨w,C,?_,f,?_⟩
 .have x:=w.1 n;rw[cG,gX x.1 x.2]at b;exact b
 .refine Cg.symm<|(f.Ch _).trans ?_;rw[PS.mul_assoc,<-PS.zM,eW v];have:Cg p (ps a*PS.K (I a n 0*v)) (ps a*PS.K 1):=(Cg.K<|by rw[u,gX D G]).IN _;rw[<-PS.IM,PS.mul_one]at this;exact this
def aoh{p}(b:dE p)(a:p<=2147483648){f g}(d:bx p f)(h:bx p g):Z (gk p f g)=1↔xY p (ps f) (ps g):=by
 let ⟨i,h2,k⟩:=Ur b a (Z g+1) f g d h<|dJ _;rw[h2,gk];by_cases e:pe p (Z g+1) f g=[]
 .rw[e,lD,q J]
 .rw[(Us b a i e).2.1]
def aoi k l:ps (bl k 0++l)=PS.X k*ps l:=PS.ext λi=>by
 rw[PS.mL,cG,cG,aN,aoj,fY];by_cases h:i<k
 .rw[q h,y G,lY,q h];rfl
 .rw[y h,q G,<-aN]
def aok{p}(a:0<p) k{l}(h:rp p l):rp p (bl k 0++l):=λi=>by
 rw[aN,aoj,fY];split
 .rw[lY];split<;>exact⟨hY _,a⟩
 .have:=h<|i-k;rwa[aN]at this
def acx x:ps [x]=PS.K x:=PS.ext λi=>by
 cases i with
 |zero=>rfl
 |succ i=>rfl
def FD{p x}(a:0<=x)(b:x<p):rp p [x]:=λi=>by
 cases i with
 |zero=>exact⟨a,b⟩
 |succ i=>exact⟨hY _,(G:(0:Y)<p)⟩
structure I4(p:Y)(a b:E Y)(M:V)(x:E Y×E Y):Prop where
 c:bx p x.1
 l:x.1.length<=a.length
 ql:x.2.length=M
 qr:rp p x.2
 cg:Cg p (ps a) (ps x.2*ps b+ps x.1)
 z:∀d,d+b.length<=x.1.length->x.2.getD d 0=0
def I4.next{p}(hp:dE p)(o:p<=2147483648){a b}{s}{d g}(h:I4 p a b s (d,g))(hb:bx p b)(H:b≠[])(hl:Z b<=Z d)(hM:Z a-Z b<s)
 {f}(L:f=I d (Z d-1) 0*((jc (af<|I b (Z b-1) 0) (af ((p:V):Y)):V):Y)%(p:Y)):
  I4 p a b s (aM<|gh d (bl (Z d-Z b) 0++cL [f] b p) p,g.set (Z d-Z b) f)/\Z (aM<|gh d (bl (Z d-Z b) 0++cL [f] b p) p)<Z d:=by
 have R:=hp.1
 have i:(0:Y)<(p:Y):=G
 have E:=cR.2 H
 obtain⟨n,C⟩:∃n,Z b=n+1:=⟨Z b-1,G⟩
 obtain⟨k,c⟩:∃k,Z d=k+(n+1):=⟨Z d-(n+1),G⟩
 rw[c,C,eE,(G:k+(n+1)-1=n+k)]at L
 rw[c,C,eE]
 have t:=hb.1 n
 have P:I b n 0≠0:=λe=>hb.top C FC
 have F:=FB hp o t.1 t.2 P
 generalize ((jc (af<|I b n 0) (af ((p:V):Y)):V):Y)=v at*
 have u:0<=f/\f<p:=by rw[L];exact⟨iP _ G,iR _ i⟩
 generalize J:bl k 0++cL [f] b p=S
 have Q:Cg p (ps S) (PS.K f*PS.X k*ps b):=by rw[<-J,aoi];have m:=Fz [f] b p;rw[acx]at m;have T:=m.IN<|PS.X k;have e:PS.X k*(PS.K f*ps b)=PS.K f*PS.X k*ps b:=fq;rwa[e]at T
 have w:Cg p (ps<|aM<|gh d S p) (ps d-PS.K f*PS.X k*ps b):=(acu d S p).trans<|(Cg.refl _ _).sub Q
 have x:bx p (aM<|gh d S p):=kZ i<|Cm i d S
 have A:Z (aM<|gh d S p)<=n+k:=by
  refine x.len<|Dl.cg (λj D=>?_) w.symm;rw[PS.uO,PS.mul_assoc,PS.fp,PS.mL];by_cases e:j=n+k
  .subst e;rw[q G,(G:n+k-k=n),cG,cG,L];generalize I d (n+k) 0=y;rw[xX,qG,mM,<-qG,jo,eW v,qG,F,ni,mM,Int.sub_self,gZ]
  .have m:=kY p d j (G:Z d<=j);have T:=kY p b (j-k) G;rw[q G,xX,m,qG,T,gY,gZ];rfl
 have B:k<Z g:=by have N:Z d<=Z a:=h.l;have U:Z g=s:=h.ql;omega
 have W:I g k 0=0:=h.z k (G:k+Z b<=Z d)
 refine⟨⟨x,?_,?_,NI h.qr _ u.1 u.2,?_,λj D=>?_⟩,G⟩
 .have N:Z d<=Z a:=h.l;show Z (aM<|gh d S p)<=Z a;omega
 .show(g.set k f).length=s;rw[nG];exact h.ql
 .simp only;rw[I1 f B,W,B3];have O:ps g*ps b+ps d=(ps g+PS.K f*PS.X k)*ps b+(ps d-PS.K f*PS.X k*ps b):=by rw[PS.add_mul,PS.sub_def];have:ps g*ps b+PS.K f*PS.X k*ps b+(ps d+ -(PS.K f*PS.X k*ps b))=ps g*ps b+ps d+(PS.K f*PS.X k*ps b+ -(PS.K f*PS.X k*ps b)):=fq;rw[this,PS.add_neg,PS.add_zero]
  have m:Cg p (ps a) (ps g*ps b+ps d):=h.cg;exact(m.trans<|Cg.of_eq O).trans<|w.symm.aca _
 .simp only at D⊢;rw[uH _ _ _ _ B];split
  .omega
  .exact h.z j (G:j+Z b<=Z d)
def zQ p(hp:dE p)(o:p<=2147483648) a b(la:Z a<=500)(lb:Z b<=500)(B:bx p a)(H:bx p b)(s:b≠[]):
  ao c 207 [S ar a,S ar b,cU p] (.a [.S ar (aM (aO a b p).1),.S ar (aO a b p).2]):=by
 refine aL Tryz.func207 ?_
 have h2:=hp.1
 have d:(0:Y)<(p:Y):=G
 have hpz:(p:Y)≠0:=G
 have hl0:=cR.2 s
 have K:=xW a p G d G<|λi=>(B.1 i).1
 rw[IW B.1,wj B.2]at K
 refine rr J<|bH J J K J<|R ?_
 obtain⟨M,hM⟩:∃M:V,max ((Z a:Y)-(Z b:Y)+1) 0=(M:Y):=⟨af<|max ((Z a:Y)-(Z b:Y)+1) 0,G⟩
 refine rm ar M J J J J J J (mE .u64) (by rw[q J];split<;>omega) ?_ ?_<|z J ?_
 .show _*8<=_;omega
 .show _*1<=_;omega
 have a2:af ((Z b:Y)-1)=Z b-1:=G
 have y:=H.1<|Z b-1
 have D:I b (Z b-1) 0≠0:=λe=>H.top (n:=Z b-1) G FC
 have L:=Up (I b (Z b-1) 0) p y D G G
 have u:ao c 248 [cU (I b (af<|(Z b:Y)-1) 0),cU p] (.t [(false,[.I .u64 (jc (af<|I b (Z b-1) 0) (af ((p:V):Y)):V)]),(false,[.I .i64 0])]):=by rw[a2];exact L
 refine R<|rc J J u<|z J (hp:=aF) ?_
 generalize hv:((jc (af<|I b (Z b-1) 0) (af ((p:V):Y)):V):Y)=v
 have N:0<=v/\v<p:=by have:=Ua (af<|I b (Z b-1) 0) (p-2) p G;rw[<-hv,jc,cr];omega
 have U:I4 p a b M (a,bl M 0):=by
  refine⟨B,aT _,fY,Ub d M,?_,λix _=>?_⟩
  .show Cg p (ps a) (ps (bl M 0)*ps b+ps a);rw[NX,PS.zero_mul,PS.zero_add];exact Cg.refl _ _
  .show I (bl M (0:Y)) ix 0=0;rw[aN,lY];split<;>rfl
 refine j<|az<|bq (α:=E Y×E Y) (λx=>⟨[(1,S ar b),(2,cU p),(6,.c<|.P 0 0),(7,S ar x.1),(8,.c<|.X 2007000),(9,cU v)],[(0,.box 201 0 [.V (.slice none 0 0),.V<|.slice none 0 0]),(2007000,.vec 150 ar x.2)],4,[]⟩) (I4 p a b M) (λx=>Z x.1) (a,bl M 0) U (wk (bM J) ⟨bE J J,bR J,A⟩) ?_
 rintro⟨r,g⟩ C
 have hc:bx p r:=C.c
 have R9:Z r<=Z a:=C.l
 have Nv:Z g=M:=C.ql
 refine j<|rr J<|F J (λh=>?_)<|λh=>?_
 .have h:Z b<=Z r:=by have h:(Z r:Y)>=(Z b:Y):=aW h;omega
  generalize hf:I r (Z r-1) 0*v%(p:Y)=f;let ⟨Q,T⟩:=C.next hp o H s h G (f:=f) (by rw[hv];exact hf.symm);have W:0<=f/\f<p:=by rw[<-hf];exact⟨iP _ G,iR _ d⟩
  have hg:=hc.1<|Z r-1;have a3:af ((Z r:Y)-1)=Z r-1:=G;obtain⟨k,hk⟩:∃k,Z r=k+Z b:=⟨Z r-Z b,G⟩;have ek:(Z r:Y)-(Z b:Y)=(k:Y):=G;rw[(G:Z r-Z b=k)]at Q T;refine aE<|az<|rr J<|rr J (hp:=aF) ?_;refine eR (st':=⟨[(1,S ar b),(2,cU p),(6,.c<|.P 0 0),(7,S ar r),(8,.c<|.X 2007000),(9,cU v),(11,O k),(12,cU f)],[(0,.box 201 0 [.V (.slice none 0 0),.V<|.slice none 0 0]),(2007000,.vec 150 ar g)],8,[]⟩) (wk ⟨sR J,sR J,sR J,sR J,sR J,sR J,sE J ?_,sE J ?_,A⟩<|ow J) ?_
  .exact jb ek
  .refine bP ?_;rw[a3,<-hf];exact ab4 _ v p hg N G
  refine rr J (hp:=aF)<|R ?_;refine rm ar k J J J J J J (mE .u64) J ?_ ?_ ?_
  .show _*8<=_;omega
  .show _*1<=_;omega
  have Sq:=uQ [f] b p ax G d G (FD W.1 W.2) H.1;have hpl:=wm [f] b p;simp only[iI,sH]at hpl;refine rl ar [_] J J (rc J J Sq<|ra J J J J J J J J J ?_ ?_<|z J ?_)
  .show(_+_+(_+_)/4+192)*8<=_;rw[fY];omega
  .show(_+_)*1<=_;rw[fY];omega
  refine da 9007000 J J J ?_;have Ut:=IX r (bl k 0++cL [f] b p) p G (by rw[iX,fY];omega) d G hc.1<|aok d k (nk d _ _).1;refine cK<|rc J J Ut<|z J<|fB<|a4 (aM<|gh r (bl k 0++cL [f] b p) p,g.set k f) Q T<|wk (bM J) ⟨bR J,bE J ?_,A⟩;refine bh (aD.vec 150 ar) ?_;rw[cr]
 .have h:Z r<Z b:=by have h:¬(Z r:Y)>=(Z b:Y):=bc h;omega
  have w:rp p g:=C.qr;have hcg:Cg p (ps a) (ps g*ps b+ps r):=C.cg;let ⟨d1,d2,d3,d4,d5,d6⟩:=l6 hp o B.1 H s;obtain⟨n,hn⟩:∃n,Z b=n+1:=⟨Z b-1,G⟩;let ⟨e1,e2⟩:=aoc hp (m:=max (Z g) (aO a b p).1.length) (n:=n) (hn▸kY p b) (H.top hn) ((kY p g).le G) ((kY p (aO a b p).1).le G) ((kY p r).le G) ((kY p (aO a b p).2).le G)<|hcg.symm.trans d1;have f2:r=(aO a b p).2:=NV hc (d5 B) e2;have f1:aM g=aM (aO a b p).1:=NV (kZ d w) (kZ d d2) (by rw[qK,qK];exact e1);have ht:=xW g p G d G<|λi=>(w i).1;rw[IW w,f1]at ht;refine bt<|aK<|da 2007000 J J J<|bH J J ht J<|bY J ?_;rw[f2];rfl
def s6 p(g:dE p)(d:p<=2147483648) a b(h:Z a<=500)(i:Z b<=500)(k:bx p a)(l:bx p b)(f:b≠[]):
  ao c 200 [S ar a,S ar b,cU p] (S ar (aO a b p).2):=by
 refine aL Tryz.func200 ?_
 exact e J<|bH J J (zQ p g d a b h i k l f) J<|c7 J
def acy p(u:dE p)(d:p<=2147483648) a(B:Z a<=500)(l:bx p a):
  ao c 201 [S ar a,cU p] (S ar<|lD p a):=by
 refine aL Tryz.func201 ?_
 have C:=u.1
 have f:(0:Y)<(p:Y):=G
 refine rr J<|j<|rr J<|F J (λh=>?_)<|λh=>aE ?_
 .have h:(Z a:Y)=0:=eq_of_beq h;have m:a=[]:=gK G;refine rr J<|bV<|cQ<|iJ cv J ?_;rw[lD,q m];exact bg.nil ar
 .have h:(Z a:Y)≠0:=nY h;have m:a≠[]:=λe=>h tu
  have x:af ((Z a:Y)-1)=Z a-1:=G;have o:=l.1<|Z a-1;have s:I a (Z a-1) 0≠0:=λe=>l.top (n:=Z a-1) G FC
  have g:=Up (I a (Z a-1) 0) p o s G G;have b:ao c 248 [cU (I a (af<|(Z a:Y)-1) 0),cU p] (.t [(false,[.I .u64 (jc (af<|I a (Z a-1) 0) (af ((p:V):Y)):V)]),(false,[.I .i64 0])]):=by rw[x];exact g
  refine R<|rc J J b (hp:=aF)<|z J ?_;have w:=Us u d l m;generalize hv:((jc (af<|I a (Z a-1) 0) (af ((p:V):Y)):V):Y)=v at*;have i:0<=v/\v<p:=by have:=Ua (af<|I a (Z a-1) 0) (p-2) p G;rw[<-hv,jc,cr];omega
  have k:=uQ [v] a p ax G f G (FD i.1 i.2) l.1;have e:cL [v] a p=lD p a:=by refine NV (nk f _ _) w.1<|(Fz [v] a p).trans ?_;rw[acx,PS.mul_comm];exact w.2.2.2.1.symm
  rw[e]at k;exact R<|rl ar [_] J J (rc J J k<|z J<|c7 J)
def FE p(o:dE p)(d:p<=2147483648) a b(u:Z a<=500)(v:Z b<=500)(w:bx p a)(B:bx p b):
  ao c 171 [S ar a,S ar b,cU p] (S ar<|gk p a b):=by
 refine aL Tryz.func171 ?_
 refine e J<|j<|az<|bq (α:=V×E Y×E Y) (λx=>⟨[(0,S ar x.2.1),(1,S ar x.2.2),(2,cU p)],[],1,[]⟩) (λx=>pe p x.1 x.2.1 x.2.2=pe p (Z b+1) a b/\Z x.2.2<x.1/\bx p x.2.1/\bx p x.2.2/\Z x.2.1<=500/\Z x.2.2<=500) (λx=>Z x.2.2) (Z b+1,a,b) ⟨J,dJ _,w,B,u,v⟩ aV ?_
 rintro⟨k,f,g⟩ ⟨i,h2,m,n,s,t⟩
 simp only at i h2 m n s t
 cases k with
 |zero=>omega
 |succ k=>
 rw[pe]at i
 refine j<|e J<|F J (λh=>?_)<|λh=>?_
 .have l:g≠[]:=by have h:(Z g:Y)>0:=aW h;intro C;rw[C]at h;simp at h
  rw[y l]at i;let ⟨d1,d2,d3,d4,d5,d6⟩:=l6 o d m.1 n l;have H:=cR.2 l;exact aE<|az<|bH J J (s6 p o d f g s t m n l) J<|e J<|rt J<|fB<|a4 (k,g,(aO f g p).2) ⟨i,(G:(aO f g p).2.length<k),n,d5 m,t,(G:(aO f g p).2.length<=500)⟩ (G:(aO f g p).2.length<Z g) aV
 .have l:g=[]:=by have h:¬(Z g:Y)>0:=bc h;exact gK G
  rw[q l]at i;refine bt<|aK<|bH J J (acy p o d f s m) J<|bY J ?_;rw[gk,<-i]
def aG(n:V)(a:Y):Prop:=aA a<4294967296^n
def aG.sm{n}{a}(h:aG n a)(b:n<=1099511627776):Sm a:=by
 refine b6 (B0 (k:=n) ?_) b;have:((aA a:V):Y)<((4294967296^n:V):Y):=by have h:aA a<4294967296^n:=h;omega
 rwa[uL]at this
def aG.le{m n}{a}(h:aG m a)(k:m<=n):aG n a:=fO h<|eZ D k
def aG.mul{m n}{a b}(h:aG m a)(k:aG n b):aG (m+n) (a*b):=by unfold aG at*;rw[rP,ku];exact NF h k
def aG.add{n}{a b}(h:aG n a)(k:aG n b):aG (n+1) (a+b):=by unfold aG at*;have:=Uu a b;rw[fQ];omega
def aG.neg{n}{a}(h:aG n a):aG n (-a):=by unfold aG at*;rwa[Int.natAbs_neg]
def aG.sub{n}{a b}(h:aG n a)(k:aG n b):aG (n+1) (a-b):=by rw[T3];exact h.add k.neg
def aG.zero n:aG n 0:=by unfold aG;exact km D
def aG.emod{n}{a m}(b:0<m)(h:aG n m):aG n (a%m):=by have d:=iP a (G:m≠0);have f:=iR a b;unfold aG at*;omega
def aG.one{a}(h:aA a<4294967296):aG 1 a:=by unfold aG;rwa[Nat.pow_one]
def aG.pow{n:V}{a:Y}(h:aG n a):∀k,aG (n*k+1) (a^k)
 |0=>by unfold aG;simp
 |k+1=>by rw[fH];exact((aG.pow h k).mul h).le (by rw[Nat.mul_succ];omega)
def acz a b u v(g:∀i,aG u (I a i 0))(l:∀i,aG v (I b i 0)) n:∀k,k<=4294967296->aG (u+v+1) (kq (λi=>I a i 0) (λi=>I b i 0) n k):=by
 have d:∀k,aA (kq (λi=>I a i 0) (λi=>I b i 0) n k)<=k*4294967296^(u+v):=by
  intro k;induction k with
  |zero=>simp[kq]
  |succ k o=>
   have h:=(g k).mul<|l<|n-k
   unfold aG at h
   have m:=Uu (kq (λi=>I a i 0) (λi=>I b i 0) n k)<|I a k 0*I b (n-k) 0
   rw[gy,iG]
   simp only[kq]
   omega
 intro k s;by_cases p:k=4294967296
 .subst p;unfold aG;have f:0<4294967296^(u+v):=km D;have:∀k,aA (kq (λi=>I a i 0) (λi=>I b i 0) n k)<4294967296^(u+v)\/aA (kq (λi=>I a i 0) (λi=>I b i 0) n k)<k*4294967296^(u+v):=by
   intro k;induction k with
   |zero=>left;simp[kq];exact f
   |succ k o=>
    right
    have h:=(g k).mul<|l<|n-k
    unfold aG at h
    have m:=Uu (kq (λi=>I a i 0) (λi=>I b i 0) n k)<|I a k 0*I b (n-k) 0
    have t:=d k
    rw[gy,iG]
    simp only[kq]
    omega
  rcases this 4294967296 with h|h
  .exact fO h<|eZ D G
  .rwa[fQ,hJ]
 .have h:=d k;unfold aG;have f:0<4294967296^(u+v):=km D;have m:k*4294967296^(u+v)<4294967296*4294967296^(u+v):=T6 G f;rw[fQ,hJ<|4294967296^(u+v)];omega
def acA a b u v(x:Z a<=1000)(H:Z b<=1000)(t:u+v<=100000)(g:∀i,aG u (I a i 0))(l:∀i,aG v (I b i 0)):ao c 212 [S .z a,S .z b] (S .z<|aM<|lC a b):=by
 refine aL Tryz.func212 ?_;refine e J<|R<|gP .z [] J J (z J<|j<|e J ?_);generalize hA:(λi=>I a i 0)=d;generalize m:(λi=>I b i 0)=B;refine az<|bq (α:=V) (λn=>⟨[(0,S .z a),(1,S .z b),(5,.c<|.X 1000000),(6,O n)],[(1000000,.vec 42 .z<|(cw n).map<|conv d B)],3,[]⟩) (λn=>n<=Z a+Z b-1) (λn=>Z a+Z b-n) 0 (bf _) aV ?_;intro n o;refine j<|e J ?_;refine F J (λh=>?_)<|λh=>?_
 .have h:n+1<Z a+Z b:=by have h:(n:Y)+1<Z a+Z b:=eh;omega
  refine aE<|j<|az<|bH J J (jn 0 D D) J<|j<|e J ?_;refine az<|bq (α:=V) (λk=>⟨[(0,S .z a),(1,S .z b),(5,.c<|.X 1000000),(6,O n),(7,.c<|.P 4001000 0),(8,O k)],[(4001000,.box 42 0<|av .z<|kq d B n k),(1000000,.vec 42 .z<|(cw n).map<|conv d B)],6,[]⟩) (λk=>k<=n+1) (λk=>n+1-k) 0 (bf _) (wk (bM J) ⟨bE J J,bR J,A⟩) ?_;intro k p;refine j<|e J ?_;refine F J (λh2=>?_)<|λh2=>?_
  .have h2:k<=n:=by have h2:(k:Y)<=n:=p';omega
   have s:=acz a b u v g l n k G;rw[hA,m]at s;refine aE<|j<|az<|cK ?_;refine rc J J (Iw a k) ?_;refine rc J J (f:=256) (r:=aZ<|I b (n-k) 0) (by have:=Iw b<|n-k;rw[(G:((n-k:V):Y)=(n:Y)-(k:Y))]at this;exact this) ?_;refine rc J J (kV (I a k 0) (I b (n-k) 0) ((g k).sm G)<|(l<|n-k).sm G) ?_;refine rc J J (xK (kq d B n k) (I a k 0*I b (n-k) 0) (s.sm G)<|((g k).mul<|l<|n-k).sm G)<|z J ?_;refine bL<|rt J<|a4 (k+1) G (G:n+1-(k+1)<n+1-k)<|wk ⟨sR J,sR J,sR J,sR J,sR J,sE J J,A⟩ ⟨bE J ?_,bR J,A⟩;have w:kq d B n (k+1)=kq d B n k+I a k 0*I b (n-k) 0:=by simp only[kq,<-hA,<-m]
   rw[w];rfl
  .have h2:¬k<=n:=by have h2:¬(k:Y)<=n:=p';omega
   have p:k=n+1:=G;subst p;refine bt<|aK ?_;refine cK<|rl .z [conv d B n] J J (ra J J J J J J J J J ?_ ?_<|z J ?_)
   .show(_+1+(_+1)/4+192)*32<=_;simp only[cT,rV];omega
   .show(_+1)*2<=_;simp only[cT,rV];omega
   refine bL<|rt J<|a4 (n+1) G (G:Z a+Z b-(n+1)<Z a+Z b-n)<|Wk.trans (wk (st':=⟨[(0,S .z a),(1,S .z b),(5,.c<|.X 7003000),(6,O ((n+1:V):Y))],[(7003000,.vec 42 .z<|(cw<|n+1).map<|conv d B)],9,[]⟩) ⟨sR J,sR J,sR J,sE J ?_,A⟩ ⟨bE J ?_,A⟩)<|Wk.trans (gW 1000000 7003000 J J J) aV
   .rfl
   .rw[yB,fF];rfl
 .have h:¬n+1<Z a+Z b:=by have h:¬(n:Y)+1<Z a+Z b:=eh;omega
  have o:n=Z a+Z b-1:=G;refine bt<|aK<|da 1000000 J J J<|bH J J (M9 _) J<|bY J ?_;unfold lC;rw[hA,m,<-o]
def acB a(p:V)(d:2<=p)(g:p<=2147483648)(f:Sm a):ao c 202 [aZ a,cU p] (cU<|a%p):=by refine aL Tryz.func202 ?_;have b:=iP a (G:(p:Y)≠0);have h:=iR a (G:(0:Y)<p);refine e J<|R<|rc J J (jn p G G) (hp:=aF)<|rc J J (Fh a p G f<|Sm.of G)<|z J ?_;refine bH J J (anp (a%p) b G) J ?_;refine e J<|bY J<|bP ?_;exact wrap_u64 _ b G
def NY p a:md p (md p a)=md p a:=by unfold md;rw[Mf];exact List.map_congr_left λx _=>mM x p
def acC a(p:V)(n:Z a<=1000)(b:2<=p)(k:p<=2147483648)(l:∀i,Sm (I a i 0)):ao c 172 [S .z a,cU p] (S ar<|aM<|md p a):=by
 refine aL Tryz.func172 ?_;have m:=xV p a;have d:=Ck (G:(0:Y)<(p:Y)) a;have g:=xW (md p a) p G G G<|λi=>(d i).1;rw[NY]at g;refine e J<|R<|gP ar [] J J (z J<|j<|e J ?_);refine az<|bq (α:=V) (λi=>⟨[(0,S .z a),(1,cU p),(5,.c<|.X 1000000),(6,O i)],[(1000000,.vec 150 ar<|(md p a).take i)],3,[]⟩) (λi=>i<=Z a) (λi=>Z a-i) 0 (bf _) aV ?_;intro i o;have s:Z ((md p a).take i)=i:=bX;refine j<|e J<|F J (λh=>?_)<|λh=>?_
 .have h:i<Z a:=by have h:(i:Y)<(Z a:Y):=aW h;omega
  have f:ao c 202 [.a (av .z<|I a (af<|(i:Y)) 0),cU p] (cU<|I a i 0%p):=by rw[cr];exact acB (I a i 0) p b k<|l i
  refine aE<|j<|az<|cK<|rc J J f (hp:=aF) ?_;refine rl ar [_] J J (ra J J J J J J J J J ?_ ?_<|z J ?_)
  .show(_+1+(_+1)/4+192)*8<=_;omega
  .show(_+1)*1<=_;omega
  refine bL<|rt J<|a4 (i+1) h qy<|Wk.trans (wk (st':=⟨[(0,S .z a),(1,cU p),(5,.c<|.X 4008000),(6,O ((i+1:V):Y))],[(4008000,.vec 150 ar<|(md p a).take<|i+1)],8,[]⟩) (bM J) ⟨bE J ?_,A⟩)<|Wk.trans (gW 1000000 4008000 J J J) aV;refine bh (aD.vec 150 ar) ?_;rw[rR _ i G,IV]
 .have h:i=Z a:=by have h:¬(i:Y)<(Z a:Y):=bc h;omega
  subst h;rw[iY G];exact bt<|aK<|da 1000000 J J J<|bH J J g J<|c7 J
def acD(a:E Y){X:V}(b:∀i,aA (I a i 0)<=X):∀i,lZ a i<=i*X
 |0=>by simp[lZ]
 |i+1=>by have:=acD a b i;have:=b i;rw[lZ,gy];omega
def acE a{w}(b:∀i,aG w (I a i 0)){i}(d:i<=13):aG (w+1) ((lZ a i:V):Y):=by unfold aG at*;have f:=acD a (λi=>BZ<|b i) i;have g:=et (4294967296^w) d;have h:=km (n:=w) (D:0<4294967296);rw[o9,fQ];omega
def sq(f:V->N):V->N
 |0=>0
 |k+1=>sq f k+f k
def uR{f g:V->N}:∀{k:V},(∀i,i<k->f i=g i)->sq f k=sq g k
 |0,_=>rfl
 |k+1,h=>by rw[sq,sq,uR<|λi a=>h i G,h k G]
def NZ{f:V->N}{k}(h:∀i,i<k->f i=0):sq f k=0:=by
 induction k with
 |zero=>rfl
 |succ k a=>rw[sq,a<|λi b=>h i G,h k G,nl]
def Uv(f g:V->N):∀k,sq (λi=>f i+g i) k=sq f k+sq g k
 |0=>(nl 0).symm
 |k+1=>by simp only[sq,Uv f g k];grind
def N0(a:N)(f:V->N):∀k,sq (λi=>a*f i) k=a*sq f k
 |0=>by simp only[sq];grind
 |k+1=>by simp only[sq,N0 a f k];grind
def aon a(f:V->N) k:sq (λi=>f i*a) k=sq f k*a:=by rw[zS,<-N0];exact uR<|λi _=>zS _ _
def acF(f:V->N):∀k,sq f (k+1)=f 0+sq (λi=>f<|i+1) k
 |0=>by simp only[sq];grind
 |k+1=>by rw[sq,acF f k,sq];grind
def acG(f:V->N):∀k,sq f k=sq (λi=>f<|k-1-i) k
 |0=>rfl
 |k+1=>by rw[sq,acG f k,acF<|λi=>f<|k+1-1-i];have:sq (λi=>f<|k+1-1-(i+1)) k=sq (λi=>f<|k-1-i) k:=uR (λi _=>by congr 1;omega);rw[this,(G:k+1-1-0=k)];grind
def acH(b:V->V->N):∀n,sq (λi=>sq (λa=>b i a)<|i+1) n=sq (λa=>sq (λk=>b (a+k) a)<|n-a) n
 |0=>rfl
 |n+1=>by
  rw[sq,acH b n];have d:sq (λa=>sq (λk=>b (a+k) a)<|n+1-a) n=sq (λa=>sq (λk=>b (a+k) a) (n-a)+b n a) n:=by refine uR<|λa f=>?_;rw[(G:n+1-a=(n-a)+1),sq,(G:a+(n-a)=n)]
  rw[show sq (λa=>sq (λk=>b (a+k) a)<|n+1-a) (n+1)=sq (λa=>sq (λk=>b (a+k) a)<|n+1-a) n+sq (λk=>b (n+k) n) (n+1-n)from J,d,Uv];rw[(G:n+1-n=1),show sq (λa=>b n a) (n+1)=sq (λa=>b n a) n+b n n from J,show sq (λk=>b (n+k) n) 1=0+b (n+0) n from J,jv];grind
def N1{f:V->N}{a:V}:∀{n:V},a<n->(∀i,i<n->i≠a->f i=0)->sq f n=f a
 |0,h,_=>by omega
 |n+1,h,b=>by
  rw[sq];by_cases d:a=n
  .subst d;rw[NZ (λi g=>b i G G),FF]
  .rw[N1 (n:=n) G (λi g=>b i G),b n G G,nl]
def cvq(a B:V->N)(n:V):N:=sq (λi=>a i*B (n-i))<|n+1
structure Rx where
 v:V->N
 fin:∃n,∀i,n<=i->v i=0
namespace Rx
instance:CoeFun Rx (λ_=>V->N):=⟨λA=>A.v⟩
def ext{a B:Rx}(h:∀i,a i=B i):a=B:=by cases a;cases B;have e:=funext h;simp only at e;subst e;rfl
def acJ{A B:V->N}{m n}(a:∀i,m<=i->A i=0)(b:∀i,n<=i->B i=0):∀i,m+n<=i+1->cvq A B i=0:=λi d=>NZ λj f=>by
 by_cases e:m<=j
 .rw[a j e,mO]
 .rw[b (i-j) G,dY]
instance:Add Rx:=⟨λA B=>⟨λi=>A i+B i,by obtain⟨m,a⟩:=A.2;obtain⟨n,b⟩:=B.2;exact⟨m+n,λi d=>by show A.v i+B.v i=0;rw[a i G,b i G,nl]⟩⟩⟩
instance:Mul Rx:=⟨λA B=>⟨cvq A.v B.v,by obtain⟨m,a⟩:=A.2;obtain⟨n,b⟩:=B.2;exact⟨m+n,λi d=>acJ a b i G⟩⟩⟩
instance:Neg Rx:=⟨λA=>⟨λi=> -A i,by obtain⟨m,a⟩:=A.2;exact⟨m,λi b=>by show-A.v i=0;rw[a i b,Rat.neg_zero]⟩⟩⟩
def K(a:N):Rx:=⟨λi=>if i=0 then a else 0,1,λi b=>y G⟩
instance:_root_.Sub Rx:=⟨λx y=>x+ -y⟩
instance:OfNat Rx 0:=⟨⟨λ_=>0,0,λ_ _=>rfl⟩⟩
instance:OfNat Rx 1:=⟨K 1⟩
def eo(a B:Rx) i:(a+B) i=a i+B i:=rfl
def IL(a:Rx) i:(-a) i= -a i:=rfl
def uO(a B:Rx) i:(a-B) i=a i-B i:=(aoo _ _).symm
def l3 i:(0:Rx) i=0:=rfl
def fD(a B:Rx) n:(a*B) n=sq (λi=>a i*B (n-i)) (n+1):=rfl
def lE a i:K a i=if i=0 then a else 0:=rfl
def dZ b d i:(K b*d) i=b*d i:=by rw[fD,N1 (a:=0) G<|λj _ f=>by rw[lE,y f,mO]];rfl
def add_comm(x a:Rx):x+a=a+x:=ext λi=>Rat.add_comm _ _
def add_assoc(x a b:Rx):x+a+b=x+(a+b):=ext λi=>Rat.add_assoc _ _ _
def mul_comm(a B:Rx):a*B=B*a:=by
 refine ext λn=>?_
 rw[fD,fD,acG];refine uR<|λi b=>?_;rw[zS,(G:n-(n+1-1-i)=i)];rfl
def mul_assoc(a B C:Rx):a*B*C=a*(B*C):=by
 refine ext λn=>?_
 rw[fD,fD];have b:sq (λi=>(a*B) i*C (n-i)) (n+1)=sq (λi=>sq (λj=>a j*B (i-j)*C (n-i))<|i+1) (n+1):=uR (λi _=>by rw[fD,aon]);rw[b,acH<|λi j=>a j*B (i-j)*C (n-i)];refine uR<|λj d=>?_;rw[fD,<-N0,(G:n+1-j=n-j+1)];refine uR<|λk f=>?_;rw[l7,(G:j+k-j=k),(G:n-(j+k)=n-j-k)]
def mul_add(a B C:Rx):a*(B+C)=a*B+a*C:=by
 refine ext λn=>?_
 rw[eo,fD,fD,fD,<-Uv];exact uR (λi _=>by rw[eo,I5])
def add_mul(x b a:Rx):(x+b)*a=x*a+b*a:=by rw[mul_comm,mul_add,mul_comm a x,mul_comm a b]
def zero_add(x:Rx):0+x=x:=ext λi=>FF _
def add_zero(x:Rx):x+0=x:=by rw[add_comm,zero_add]
def one_mul(x:Rx):1*x=x:=ext λi=>(dZ 1 x i).trans<|qL _
def mul_one(x:Rx):x*1=x:=by rw[mul_comm,one_mul]
def zero_mul(x:Rx):0*x=0:=ext λn=>by rw[fD];exact NZ λi _=>by rw[l3,mO]
def mul_zero(x:Rx):x*0=0:=by rw[mul_comm,zero_mul]
def add_neg(x:Rx):x+ -x=0:=ext λi=>aop _
def neg_add(x:Rx): -x+x=0:=by rw[add_comm,add_neg]
def sub_def(x a:Rx):x-a=x+ -a:=rfl
instance:Std.Associative (α:=Rx) (·+·):=⟨add_assoc⟩
instance:Std.Commutative (α:=Rx) (·+·):=⟨add_comm⟩
instance:Std.Associative (α:=Rx) (·*·):=⟨mul_assoc⟩
instance:Std.Commutative (α:=Rx) (·*·):=⟨mul_comm⟩
def add_left_cancel{x a b:Rx}(h:x+a=x+b):a=b:=by have:=bh (-x+·) h;simpa only[<-add_assoc,neg_add,zero_add]using this
def lF(x a:Rx):x-a+a=x:=by rw[sub_def,add_assoc,neg_add,add_zero]
def xZ(x a:Rx):x+a-a=x:=by rw[sub_def,add_assoc,add_neg,add_zero]
def FG{x a b:Rx}(h:x+a=b):x=b-a:=by rw[<-h,xZ]
def sub_eq{x a b:Rx}(h:x=b+a):x-a=b:=by rw[h,xZ]
def sub_self(x:Rx):x-x=0:=add_neg x
def Cq{x a:Rx}(h:x-a=0):x=a:=by rw[<-lF x a,h,zero_add]
def sub_mul(x b a:Rx):(x-b)*a=x*a-b*a:=FG (by rw[<-add_mul,lF])
def mul_sub(x a b:Rx):x*(a-b)=x*a-x*b:=by rw[mul_comm,sub_mul,mul_comm a,mul_comm b]
def neg_mul(x a:Rx): -x*a= -(x*a):=add_left_cancel (x:=x*a) (by rw[<-add_mul,add_neg,add_neg,zero_mul])
def neg_neg(x:Rx): - -x=x:=add_left_cancel (x:= -x) (by rw[add_neg,neg_add])
def neg_sub(x a:Rx): -(x-a)=a-x:=add_left_cancel (x:=x-a) (by rw[add_neg,sub_def,sub_def];have:x+ -a+(a+ -x)=(x+ -x)+(-a+a):=fq;rw[this,add_neg,neg_add,add_zero])
def I6(x a b:Rx):(x-a)+(a-b)=x-b:=by rw[sub_def,sub_def,sub_def];have:x+ -a+(a+ -b)=x+ -b+(-a+a):=fq;rw[this,neg_add,add_zero]
def N2(x b a w:Rx):(x+b)-(a+w)=(x-a)+(b-w):=sub_eq (by have:x-a+(b-w)+(a+w)=(x-a+a)+(b-w+w):=fq;rw[this,lF,lF])
instance:Dvd (Rx):=⟨λa b=>∃w,b=w*a⟩
def dvd_refl(a:Rx):a∣a:=⟨1,(one_mul a).symm⟩
def dvd_zero(a:Rx):a∣0:=⟨0,(zero_mul a).symm⟩
def dvd_trans{a b d:Rx}(h:a∣b)(k:b∣d):a∣d:=by obtain⟨w,rfl⟩:=h;obtain⟨v,rfl⟩:=k;exact⟨v*w,(mul_assoc v w a).symm⟩
def dvd_mul_left(a b:Rx):a∣b*a:=⟨b,J⟩
def dvd_mul_right(a b:Rx):a∣a*b:=⟨b,mul_comm a b⟩
def dQ{a b}(h:a∣b)(d:Rx):a∣d*b:=dvd_trans h<|dvd_mul_left b d
def ma{a b}(h:a∣b)(d:Rx):a∣b*d:=dvd_trans h<|dvd_mul_right b d
def dvd_add{a b d:Rx}(h:a∣b)(k:a∣d):a∣b+d:=by obtain⟨w,rfl⟩:=h;obtain⟨v,rfl⟩:=k;exact⟨w+v,(add_mul w v a).symm⟩
def dvd_neg{a b:Rx}(h:a∣b):a∣-b:=by obtain⟨w,rfl⟩:=h;exact⟨-w,(neg_mul w a).symm⟩
def dvd_sub{a b d:Rx}(h:a∣b)(k:a∣d):a∣b-d:=dvd_add h<|dvd_neg k
def wo{a b d:Rx}(h:a∣b+d)(k:a∣b):a∣d:=by have:=dvd_sub h k;rwa[add_comm b d,xZ]at this
def aoq{a b d:Rx}(h:a∣b-d)(k:a∣d):a∣b:=by have:=dvd_add h k;rwa[lF]at this
def n5{a b d:Rx}(h:a∣b-d):a∣d-b:=by rw[<-neg_sub];exact dvd_neg h
def np{a b f d:Rx}(h:a∣b-f)(k:a∣f-d):a∣b-d:=by rw[<-I6 b f d];exact dvd_add h k
def N3{a b f d g:Rx}(h:a∣b-f)(k:a∣d-g):a∣(b+d)-(f+g):=by rw[N2];exact dvd_add h k
def oD{a b f d g:Rx}(h:a∣b-f)(k:a∣d-g):a∣b*d-f*g:=by
 have:b*d-f*g=(b-f)*d+f*(d-g):=by rw[sub_mul,mul_sub,I6]
 rw[this];exact dvd_add (ma h d)<|dQ k f
def n6(a b:Rx):a∣b-b:=by rw[sub_self];exact dvd_zero a
def pk(a:Rx):V->Rx
 |0=>1
 |n+1=>pk a n*a
def rW a:pk a 1=a:=one_mul a
def zT(a:Rx)(m:V):∀n,pk a (m+n)=pk a m*pk a n
 |0=>(mul_one _).symm
 |n+1=>by rw[<-q',pk,pk,zT a m n,mul_assoc]
def uS(a:Rx)(m:V):∀n,pk a (m*n)=pk (pk a m) n
 |0=>rfl
 |n+1=>by rw[Nat.mul_succ,zT,pk,uS a m n]
def uT(a b:Rx):∀n,pk (a*b) n=pk a n*pk b n
 |0=>(one_mul 1).symm
 |n+1=>by rw[pk,pk,pk,uT a b n];ac_rfl
def Cs:∀n,pk (1:Rx) n=1
 |0=>rfl
 |n+1=>by rw[pk,Cs n,one_mul]
def X(k:V):Rx:=⟨λi=>if i=k then 1 else 0,k+1,λi a=>y G⟩
def rX k i:X k i=if i=k then 1 else 0:=rfl
def mL k b i:(X k*b) i=if k<=i then b (i-k)else 0:=by
 rw[fD];by_cases h:k<=i
 .rw[q h,N1 (a:=k) G (λj _ d=>by rw[rX,y d,mO]),rX,q J,qL]
 .rw[y h];exact NZ (λj d=>by rw[rX,y G,mO])
def acK:X 0=1:=rfl
def Fq a k:X (a+k)=X a*X k:=ext λi=>by
 rw[mL,rX];by_cases h:a<=i
 .rw[q h,rX];by_cases h2:i=a+k
  .rw[q h2,q G]
  .rw[y h2,y G]
 .rw[y h,y G]
def Fp a b:K (a+b)=K a+K b:=ext λi=>by rw[eo,lE,lE,lE];split<;>grind
def fp a b:K (a*b)=K a*K b:=ext λi=>by rw[dZ,lE,lE];split<;>grind
def nj:K 0=0:=ext λi=>by rw[lE,l3];split<;>rfl
def qM:K 1=1:=rfl
def N5 a:K (-a)= -K a:=add_left_cancel (x:=K a) (by rw[<-Fp,aop,nj,add_neg])
def aor a b:K (a-b)=K a-K b:=by rw[aoo,Fp,N5,sub_def]
def Uw{a b}(h:K a=K b):a=b:=bh (λA:Rx=>A 0) h
def ph{c}(h:c≠0):K c⁻¹ *K c=1:=by rw[<-fp,nq c h,qM]
def lx(a:E N):Rx:=⟨λi=>I a i 0,Z a,λi b=>by rw[aN,jS b];rfl⟩
def fj a i:lx a i=I a i 0:=rfl
def pj:lx []=0:=ext λi=>rfl
def I7 a:lx [a]=K a:=ext λi=>by
 cases i with
 |zero=>rfl
 |succ i=>rfl
def N6 b a:lx (b::a)=K b+X 1*lx a:=ext λi=>by
 rw[eo,mL];cases i with
 |zero=>rw[y G];show b=K b 0+0;rw[lE,q J,nl]
 |succ i=>rw[q G];show I a i 0=K b (i+1)+I a i 0;rw[lE,y G,FF]
def bU(a:E N):Prop:=a=[]\/I a (Z a-1) 0≠0
def wq:bU []:= .inl J
def g5(a:E N){i}(h:Z a<=i):I a i 0=0:=by rw[aN,jS h];rfl
def bU.top{a}(h:bU a){n}(b:Z a=n+1):I a n 0≠0:=by
 rcases h with h|h
 .subst h;simp at b
 .rwa[b,eE]at h
def aos{a b:E N}(d:Z a=Z b)(h:∀i,I a i 0=I b i 0):a=b:=by refine tQ d<|λi f g=>?_;have:=h i;rwa[aN,aN,cO f,cO g]at this
def rY{a b}(f:bU a)(g:bU b)(h:lx a=lx b):a=b:=by
 have d:∀i,I a i 0=I b i 0:=λi=>bh (λA:Rx=>A i) h
 refine aos ?_ d;rcases Qk (Z a) (Z b)with e|e|e
 .exact absurd ((d<|Z b-1).symm.trans<|g5 a G)<|g.top G
 .exact e
 .exact absurd ((d<|Z a-1).trans<|g5 b G)<|f.top G
def Ux(b:V->N):∀n,(∀i,n<=i->b i=0)->∃a:E N,bU a/\Z a<=n/\∀i,I a i 0=b i
 |0,h=>⟨[],wq,aT _,λi=>(h i<|bf _).symm⟩
 |n+1,h=>by
  by_cases d:b n=0
  .let ⟨a,g,h2,k⟩:=Ux b n (λi m=>by
    by_cases l:i=n
    .rw[l,d]
    .exact h i G)
   exact⟨a,g,G,k⟩
  .have f:∀i,I ((cw<|n+1).map b) i 0=b i:=λi=>by
    rw[aN,iN];by_cases d:i<n+1
    .rw[jV d];rfl
    .rw[jS bX];exact(h i G).symm
   refine⟨(cw<|n+1).map b,.inr ?_,ax,f⟩;rw[f];simpa using d
def jq b:∃a,bU a/\lx a=b:=by let ⟨n,d⟩:=b.2;let ⟨a,f,_,g⟩:=Ux b.v n d;exact⟨a,f,ext g⟩
open Classical in
noncomputable def sz(a:Rx):V:=Z<|Classical.choose<|jq a
def fS{a}(d:bU a):sz (lx a)=Z a:=by have b:=wu<|jq<|lx a;rw[sz,rY b.1 d b.2]
def n7{n}{A}(h:∀i,n<=i->A i=0):sz A<=n:=by let ⟨a,b,h2,d⟩:=Ux A.v n h;rw[<-(ext d:lx a=A),fS b];exact h2
def mb{A}{i}(h:sz A<=i):A i=0:=by obtain⟨a,b,rfl⟩:=jq A;rw[fS b]at h;exact g5 a h
def I9{b}{n}(h:sz b=n+1):b n≠0:=by obtain⟨a,d,rfl⟩:=jq b;rw[fS d]at h;exact d.top h
def aot{a}{n}(h:a n≠0):n<sz a:=Nat.lt_of_not_le λe=>h<|mb e
def N7 a:sz (lx a)<=Z a:=n7 λ_ b=>g5 a b
def kv:sz (0:Rx)=0:=Nat.le_zero.1<|n7 λ_ _=>rfl
def Uy a:sz (K a)<=1:=n7 λi b=>by rw[lE,y G]
def Uz{a}(h:sz a=0):a=0:=ext λi=>mb G
def fo{a}(h:a≠0):0<sz a:=by
 rcases qD (sz a)with e|e
 .exact absurd (Uz e) h
 .exact e
def zW a B:sz (a+B)<=max (sz a) (sz B):=n7 λi b=>by rw[eo,mb (A:=a) G,mb (A:=B) G,nl]
def UA a:sz (-a)<=sz a:=n7 λi b=>by rw[IL,mb b];rfl
def FI a B:sz (a-B)<=max (sz a) (sz B):=by have b:=zW a<| -B;have d:=UA B;rw[sub_def];omega
def Cp{b B:Rx}{m n:V}(d:∀i,m<i->b i=0)(f:∀i,n<i->B i=0):(b*B) (m+n)=b m*B n:=by
 rw[fD,N1 (a:=m) G<|λj g h=>?_]
 .rw[(G:m+n-m=n)]
 .by_cases e:m<j
  .rw[d j e,mO]
  .rw[f (m+n-j) G,dY]
def qN:(1:Rx)≠0:=λe=>by
 have:(1:Rx) 0=(0:Rx) 0:=by rw[e]
 exact absurd this D
def ef{a B}(d:a≠0)(f:B≠0):sz (a*B)+1=sz a+sz B:=by
 have o:=fo d;have p:=fo f;obtain⟨m,g⟩:∃m,sz a=m+1:=⟨sz a-1,G⟩;obtain⟨n,h⟩:∃n,sz B=n+1:=⟨sz B-1,G⟩;have k:(a*B) (m+n)≠0:=by
  rw[Cp (λi b=>mb G) (λi b=>mb G)];intro e;rcases zX.1 e with e|e
  .exact I9 g e
  .exact I9 h e
 have s:=aot k;have t:sz (a*B)<=m+n+1:=n7 λi b=>acJ (A:=a.v) (B:=B.v) (m:=m+1) (n:=n+1) (λj l=>mb (A:=a) G) (λj l=>mb (A:=B) G) i G
 omega
def s7{a}(h:a≠0):K a≠0:=λe=>h<|Uw<|e.trans nj.symm
def nZ{a B:Rx}(b:a≠0)(d:B≠0):a*B≠0:=λe=>by have h:=ef b d;rw[e,kv]at h;have f:=fo b;have g:=fo d;omega
def zY{A B C:Rx}(a:A≠0)(h:B*A=C*A):B=C:=by
 refine Cq ?_;refine fc λb=>?_
 exact nZ b a (by rw[sub_mul,h,sub_self])
def rZ:sz (1:Rx)=1:=by have a:=Uy 1;have b:=fo qN;rw[qM]at a;omega
def FJ{f}(h:sz f=1):∃b:N,b≠0/\f=K b:=by
 obtain⟨a,d,rfl⟩:=jq f;rw[fS d]at h;match a,h,d with
 |[b],_,d=>exact⟨b,d.top (n:=0) J,I7 b⟩
def wy{a}(h:sz a=1):∃B:Rx,B*a=1:=by obtain⟨c,b,rfl⟩:=FJ h;exact⟨_,ph b⟩
def x4{a B}(h:B*a=1):sz a=1:=by
 have b:a≠0:=λe=>qN (by rw[<-h,e,mul_zero])
 have d:B≠0:=λe=>qN (by rw[<-h,e,zero_mul])
 have f:=ef d b;rw[h,rZ]at f;have g:=fo b;have i:=fo d;omega
def dvd_one{a}(h:a∣1):sz a=1:=by let ⟨w,hw⟩:=h;exact x4 hw.symm
def jK{a B}(h:a∣B)(b:B≠0):sz a<=sz B:=by
 obtain⟨w,rfl⟩:=h;have d:w≠0:=λe=>b I'
 have f:a≠0:=λe=>b (by rw[e,mul_zero])
 have g:=ef d f;have pw:=fo d;omega
def s8{A B}(h:A∣B)(a:sz B<sz A):B=0:=
 fc λb=>by have:=jK h b;omega
def acL{B:Rx}(d:B≠0):∀(n:V)(a:Rx),sz a<n->∃Q b,a=Q*B+b/\sz b<sz B
 |0,_,h=>by omega
 |n+1,a,h=>by
  by_cases f:sz a<sz B
  .exact⟨0,a,by rw[zero_mul,zero_add],f⟩
  .have s:=fo d;obtain⟨k,g⟩:∃k,sz B=k+1:=⟨sz B-1,G⟩;obtain⟨m,t⟩:∃m,sz a=m+k+1:=⟨sz a-k-1,G⟩;have l:sz (a-K (a (m+k)*(B k)⁻¹)*(X m*B))<n:=by
    have:sz (a-K (a (m+k)*(B k)⁻¹)*(X m*B))<=m+k:=n7 λi u=>by
     rw[uO,dZ,mL,q (G:m<=i)];by_cases o:i=m+k
     .rw[o,(G:m+k-m=k),l7,nq _<|I9 g,nr];grind
     .rw[mb (A:=a) (i:=i) G,mb (A:=B) (i:=i-m) G];grind
    omega
   let ⟨Q,b,h2,p⟩:=acL d n _ l;refine⟨K (a (m+k)*(B k)⁻¹)*X m+Q,b,?_,p⟩;rw[add_mul,add_assoc,<-h2,mul_assoc,add_comm,lF]
def UB a{B}(d:B≠0):∃Q b,a=Q*B+b/\sz b<sz B:=acL d _ a<|dJ _
def Ct:∀(n:V)(b B:Rx),sz B<n->∃d f a,d∣b/\d∣B/\d=f*b+a*B
 |0,_,_,h=>by omega
 |n+1,b,B,h=>by
  by_cases i:B=0
  .subst i;exact⟨b,1,0,dvd_refl b,dvd_zero b,by rw[one_mul,mul_zero,add_zero]⟩
  .let ⟨Q,g,k,h2⟩:=UB b i;let ⟨d,f,a,l,m,o⟩:=Ct n B g G;refine⟨d,a,f-a*Q,?_,l,?_⟩
   .rw[k];exact dvd_add (dQ l Q) m
   .rw[o,k,mul_add,sub_mul];have:a*(Q*B)+a*g+(f*B-a*Q*B)=(f*B-a*Q*B+a*Q*B)+a*g:=fq;rw[this,lF]
def Co(a B:Rx):Prop:=∃U V,U*a+V*B=1
def Co.dvd{a B C}(h:Co a B)(k:a∣B*C):a∣C:=by
 let ⟨U,V,h⟩:=h;have:C=C*U*a+V*(B*C):=by have b:C*(U*a)+C*(V*B)=C*U*a+V*(B*C):=fq;rw[<-b,<-mul_add,h,mul_one]
 rw[this];exact dvd_add (dvd_mul_left a _)<|dQ k V
def bu(Q:Rx):Prop:=2<=sz Q/\∀A B,Q=A*B->sz A=1\/sz B=1
def bu.ne{Q}(h:bu Q):Q≠0:=λe=>by have:=h.1;rw[e,kv]at this;omega
def bu.or{Q}(h:bu Q) a:Q∣a\/Co Q a:=by
 let ⟨D,U,V,d,h2,f⟩:=Ct _ Q a<|dJ _;let ⟨w,hw⟩:=d;rcases h.2 _ _ hw with e|e
 .let ⟨B,b⟩:=wy e;left;refine dvd_trans ⟨B,?_⟩ h2;rw[hw,<-mul_assoc,b,one_mul]
 .let ⟨B,b⟩:=wy e;right;refine⟨B*U,B*V,?_⟩;rw[<-b,f,mul_add,mul_assoc,mul_assoc]
def bu.Cu{Q}(h:bu Q):¬Q∣1:=λe=>by have:=dvd_one e;have:=h.1;omega
def bu.oE{Q}(h:bu Q){a B}(k:Q∣a*B):Q∣a\/Q∣B:=by
 rcases h.or a with e|e
 .exact .inl e
 .exact .inr<|e.dvd k
def s':∀(n:V)(a:Rx),sz a<n->2<=sz a->∃Q,bu Q/\Q∣a
 |0,_,h,_=>by omega
 |n+1,a,h,h2=>by
  by_cases d:bu a
  .exact⟨a,d,dvd_refl a⟩
  .have:∃B C,a=B*C/\¬(sz B=1\/sz C=1):=fc λl=>d ⟨h2,λB C e=>fc λf=>l ⟨B,C,e,f⟩⟩
   let ⟨B,C,e,f⟩:=this;have g:a≠0:=λe=>by rw[e,kv]at h2;omega
   have i:B≠0:=λb=>g (by rw[e,b,zero_mul])
   have k:C≠0:=λb=>g (by rw[e,b,mul_zero])
   have m:=ef i k;rw[<-e]at m;have s:=fo i;have t:=fo k;let ⟨Q,o,p⟩:=s' n B G G;exact⟨Q,o,by rw[e];exact ma p C⟩
def FK{a B}(f:a≠0)(h:∀Q,bu Q->Q∣a->Q∣B->False):Co a B:=by
 let ⟨D,U,V,b,h2,g⟩:=Ct _ a B<|dJ _;have i:D≠0:=λe=>by let ⟨w,hw⟩:=b;rw[e,mul_zero]at hw;exact f hw
 have m:=fo i;by_cases e:sz D=1
 .let ⟨C,k⟩:=wy e;refine⟨C*U,C*V,?_⟩;rw[<-k,g,mul_add,mul_assoc,mul_assoc]
 .let ⟨Q,l,d⟩:=s' _ D (dJ _) G;exact(h Q l (dvd_trans d b)<|dvd_trans d h2).elim
end Rx
namespace Rx
def x5{a B C b:Rx}(h:a∣B)(k:C∣b):a*C∣B*b:=by obtain⟨w,rfl⟩:=h;obtain⟨v,rfl⟩:=k;exact⟨w*v,fq⟩
def wz{a}(h:a≠0):sz (K a)=1:=x4<|ph h
def aou{b B}{a}(d:a≠0)(h:b∣K a*B):b∣B:=by
 have e:B=K a⁻¹ *(K a*B):=by rw[<-mul_assoc,ph d,one_mul]
 rw[e];exact dQ h _
def bA(a:Rx):Rx:=⟨λi=>((i+1:V):N)*a (i+1),by let ⟨n,h⟩:=a.2;exact⟨n,λi b=>by rw[h (i+1) G,dY]⟩⟩
def qO a i:bA a i=((i+1:V):N)*a (i+1):=rfl
def Ja x a:bA (x+a)=bA x+bA a:=ext λi=>by rw[qO,eo,eo,I5];rfl
def FM a:bA (K a)=0:=ext λi=>by rw[qO,lE,y G,dY];rfl
def UC:bA 0=0:=by rw[<-nj,FM,nj]
def aov:bA 1=0:=FM 1
def Jb a x:bA (K a*x)=K a*bA x:=ext λi=>by rw[qO,dZ,dZ,qO];grind
def Jc x:bA (X 1*x)=x+X 1*bA x:=ext λi=>by
 rw[qO,mL,eo,mL,q G,eE];cases i with
 |zero=>rw[y G,nl];exact qL _
 |succ i=>
  rw[q G,eE,qO,acM (i+1) 1]
  grind
def Jd(B:Rx):∀a:E N,bA (lx a*B)=bA (lx a)*B+lx a*bA B
 |[]=>by rw[pj,zero_mul,UC,zero_mul,zero_mul,zero_add]
 |d::a=>by have b:=Jd B a;rw[N6,add_mul,Ja,Jb,mul_assoc,Jc,b,Ja,FM,zero_add,Jc];simp only[add_mul,mul_add];ac_rfl
def wC b B:bA (b*B)=bA b*B+b*bA B:=by obtain⟨a,_,rfl⟩:=jq b;exact Jd B a
def Je(Q:Rx):∀a,bA (pk Q<|a+1)=pk Q a*(K ((a+1:V):N)*bA Q)
 |0=>by rw[rW];show bA Q=1*(K 1*bA Q);rw[qM,one_mul,one_mul]
 |a+1=>by rw[show pk Q (a+1+1)=pk Q (a+1)*Q from J,wC,Je Q a,acM (a+1) 1,Fp,add_mul,mul_add];rw[show(K ((1:V):N):Rx)=1 from J,one_mul,show pk Q (a+1)=pk Q a*Q from J];ac_rfl
def aow{Q}(h:2<=sz Q):bA Q≠0:=λe=>by
 obtain⟨n,b⟩:∃n,sz Q=n+1+1:=⟨sz Q-2,G⟩;have d:=I9 b;have a:bA Q n=(0:Rx) n:=by rw[e]
 rw[qO,l3]at a;rcases zX.1 a with a|a
 .have:n+1=0:=by exact_mod_cast a
  omega
 .exact d a
def N8{Q}:sz (bA Q)<=sz Q-1:=n7 λi a=>by rw[qO,mb G,dY]
def bu.Jf{Q}(h:bu Q):¬Q∣bA Q:=λa=>by have b:=h.1;have d:=N8 (Q:=Q);exact aow b<|s8 a G
def Mo(a:Rx):Prop:=a (sz a-1)=1
def Mo.ne{a}(h:Mo a):a≠0:=λe=>by subst e;have b:(0:N)=1:=h;exact absurd b D
def Mo.at{a}(h:Mo a){n}(b:sz a=n+1):a n=1:=by have:=h;rwa[Mo,b,eE]at this
def acN{a B}{m n}(d:sz a=m+1)(f:sz B=n+1):(a*B) (m+n)=a m*B n:=Cp (λi b=>mb G)<|λi b=>mb G
def FN{a}(h:a≠0):∃n,sz a=n+1:=⟨sz a-1,by have:=fo h;omega⟩
def Mo.mul{a B}(h:Mo a)(k:Mo B):Mo (a*B):=by let ⟨m,hm⟩:=FN h.ne;let ⟨n,b⟩:=FN k.ne;have d:=ef h.ne k.ne;rw[Mo,(G:sz (a*B)-1=m+n),acN hm b,h.at hm,k.at b,qL]
def Mo.zZ{a B}(h:Mo (a*B))(k:Mo B):Mo a:=by
 have b:a≠0:=λe=>h.ne I'
 let ⟨m,hm⟩:=FN b;let ⟨n,d⟩:=FN k.ne;have g:=ef b k.ne;have f:=h.at (n:=m+n) G;rw[acN hm d,k.at d,nr]at f;rw[Mo,hm];exact f
def acO:Mo 1:=by have:sz (1:Rx)=1:=rZ;rw[Mo,this];rfl
def Mo.pk{a:Rx}(h:Mo a):∀n,Mo (pk a n)
 |0=>acO
 |n+1=>(Mo.pk h n).mul h
def Mo.unit{a}(h:Mo a)(b:sz a=1):a=1:=by obtain⟨c,f,rfl⟩:=FJ b;have d:=h.at b;rw[show c=1 from d];rfl
def Mo.eq{a B}(h:Mo a)(k:Mo B)(b:a∣B)(f:B∣a):a=B:=by have i:=jK b k.ne;have l:=jK f h.ne;obtain⟨w,rfl⟩:=b;have d:Mo w:=k.zZ h;have m:=ef d.ne h.ne;have g:w=1:=d.unit G;rw[g,one_mul]
def acP{a}(h:a≠0):∃d:N,d≠0/\Mo (K d*a):=by
 let ⟨n,g⟩:=FN h;have f:=I9 g;have b:(a n)⁻¹ ≠0:=λe=>by have:=nq _ f;rw[e,mO]at this;exact absurd this D
 refine⟨(a n)⁻¹,b,?_⟩;have i:=ef (s7 b) h;rw[wz b]at i;rw[Mo,(G:sz (K (a n)⁻¹ *a)-1=n),dZ,nq _ f]
def bu.smul{Q}(h:bu Q){b}(d:b≠0):bu (K b*Q):=by
 have g:=ef (s7 d) h.ne;rw[wz d]at g;refine⟨Ci,λA B e=>?_⟩;have i:Q=(K b⁻¹ *A)*B:=by rw[mul_assoc,<-e,<-mul_assoc,ph d,one_mul]
 rcases h.2 _ _ i with f|f
 .left;have a:b⁻¹ ≠0:=λe=>by have:=nq _ d;rw[e,mO]at this;exact absurd this D
  have k:A≠0:=λl=>by rw[l,mul_zero,kv]at f;omega
  have:=ef (s7 a) k;rw[wz a]at this;omega
 .exact .inr f
def bu.assoc{Q a}(h:bu Q)(k:bu a)(b:Q∣a):a∣Q:=by
 let ⟨w,hw⟩:=b;rcases k.2 _ _ hw with e|e
 .let ⟨C,d⟩:=wy e;exact⟨C,by rw[hw,<-mul_assoc,d,one_mul]⟩
 .have:=h.1;omega
def bu.eq{Q a}(h:bu Q)(k:bu a)(d:Mo Q)(f:Mo a)(b:Q∣a):Q=a:=d.eq f b<|h.assoc k b
def mult{Q:Rx}(b:bu Q):∀(n:V)(a:Rx),sz a<n->a≠0->∃e h,a=pk Q e*h/\¬Q∣h
 |0,_,h,_=>by omega
 |n+1,a,h,i=>by
  by_cases d:Q∣a
  .obtain⟨w,rfl⟩:=d;have f:w≠0:=λe=>i I'
   have l:=ef f b.ne;have m:=b.1;obtain⟨e,g,rfl,k⟩:=mult b n w G f;exact⟨e+1,g,by rw[pk];ac_rfl,k⟩
  .exact⟨0,a,(one_mul a).symm,d⟩
def bu.pk{Q d:Rx}(h:bu Q):∀{n:V},Q∣pk d n->0<n/\Q∣d
 |0,a=>absurd a h.Cu
 |n+1,a=>by
  rcases h.oE a with b|b
  .exact⟨G,(bu.pk h b).2⟩
  .exact⟨G,b⟩
structure FL(L:E (Rx×V)):Prop where
 gH:∀x∈L,bu x.1
 mo:∀x∈L,Mo x.1
 pos:∀x∈L,1<=x.2
 Cv:L.Pairwise (λx a=>x.1≠a.1)
def FL.tail{x}{L}(h:FL (x::L)):FL L:=⟨λy hy=>h.gH y uv,λy hy=>h.mo y uv,λy hy=>h.pos y uv,(jP.1 h.Cv).2⟩
def FL.UD:∀{L:E (Rx×V)},L.Pairwise (λx g=>x.1≠g.1)->∀{x b:Rx×V},x∈L->b∈L->x≠b->x.1≠b.1
 |g::L,h,x,b,hx,i,fe=>by
  let ⟨k,h2⟩:=jP.1 h;rcases bZ.1 hx with l|d
  .rcases bZ.1 i with f|a
   .exact absurd (l.trans f.symm) fe
   .rw[l];exact k b a
  .rcases bZ.1 i with f|a
   .rw[f];exact(k x d).symm
   .exact FL.UD h2 d a fe
def pF(a:V->V):E (Rx×V)->Rx
 |[]=>1
 |x::L=>pk x.1 (a x.2)*pF a L
def Cw(a d:V->V):∀L,pF (λm=>a m+d m) L=pF a L*pF d L
 |[]=>(one_mul 1).symm
 |x::L=>by rw[pF,pF,pF,Cw a d L,zT];ac_rfl
def x6{a d:V->V}:∀{L:E (Rx×V)},(∀x∈L,a x.2=d x.2)->pF a L=pF d L
 |[],_=>rfl
 |x::L,h=>by rw[pF,pF,h x ax,x6<|λb hy=>h b uv]
def wD{a:V->V}:∀{L:E (Rx×V)},(∀x∈L,Mo x.1)->Mo (pF a L)
 |[],_=>acO
 |x::L,h=>((h x ax).pk _).mul<|wD λb hy=>h b uv
def N9{a:V->V}:∀{L:E (Rx×V)},(∀x∈L,a x.2=0)->pF a L=1
 |[],_=>rfl
 |x::L,h=>by rw[pF,h x ax,N9<|λb hy=>h b uv];exact one_mul 1
def Jg{c:V->V}:∀{L:E (Rx×V)}{x:Rx×V},x∈L->0<c x.2->x.1∣pF c L
 |d::L,x,h,hc=>by
  rw[pF];rcases bZ.1 h with rfl|h
  .obtain⟨a,b⟩:∃a,c x.2=a+1:=⟨c x.2-1,G⟩;rw[b,pk];exact ma (dvd_mul_left _ _) _
  .exact dQ (Jg h hc) _
def z0{d:V->V}{Q:Rx}(a:bu Q):∀{L:E (Rx×V)},Q∣pF d L->∃x∈L,0<d x.2/\Q∣x.1
 |[],h=>absurd h a.Cu
 |f::L,h=>by
  rcases a.oE h with b|b
  .exact⟨f,ax,a.pk b⟩
  .let ⟨x,h1,h2⟩:=z0 a b;exact⟨x,z4,h2⟩
def FL.aox{x}{L}(h:FL (x::L)){a:V->V}:¬x.1∣pF a L:=λb=>by let ⟨y,h1,h2,d⟩:=z0 (h.gH x ax) b;exact(jP.1 h.Cv).1 y h1<|(h.gH x ax).eq (h.gH y z4) (h.mo x ax) (h.mo y z4) d
def FL.Jf{f:V->V}(i:∀m,f m<=1):∀{L:E (Rx×V)},FL L->∀{x:Rx×V},x∈L->f x.2=1->¬x.1∣bA (pF f L)
 |b::L,h,x,hx,k,d=>by
  have g:=h.gH b ax;rcases bZ.1 hx with rfl|a
  .rw[pF,k,rW,wC]at d;rcases g.oE (wo ((add_comm _ _).symm▸d)<|dvd_mul_right _ _)with e|e
   .exact g.Jf e
   .exact h.aox e
  .have l:=FL.Jf i h.tail a k;have n:=h.gH x hx;by_cases o:f b.2=0
   .rw[pF,o]at d;exact l (by rwa[show pk b.1 0=1 from J,one_mul]at d)
   .have p:f b.2=1:=by have:=i b.2;omega
    rw[pF,p,rW,wC]at d;rcases n.oE (wo d<|dQ (Jg a G) _)with e|e
    .exact(jP.1 h.Cv).1 x a (n.eq g (h.mo x hx) (h.mo b ax) e).symm
    .exact l e
def acQ:∀(n:V)(b:Rx),sz b<n->Mo b->∃L,FL L/\pF id L=b
 |0,_,h,_=>by omega
 |n+1,b,h,k=>by
  have H:=fo k.ne;by_cases e:sz b=1
  .exact⟨[],⟨ax,ax,ax,.nil⟩,(k.unit e).symm⟩
  .let ⟨Q,o,B⟩:=s' _ b (dJ _) G;let ⟨c,hc,hm⟩:=acP o.ne;have m:=o.smul hc;have p:K c*Q∣b:=dvd_trans (o.assoc m<|dvd_mul_left _ _) B;generalize K c*Q=q at*;let ⟨e,g,l,t⟩:=mult m _ b (dJ _) k.ne;have C:1<=e:=by
    rcases qD e with d|d
    .subst d;rw[show pk q 0=1 from J,one_mul]at l;exact absurd (l▸p) t
    .exact d
   have u:Mo g:=by rw[l,mul_comm]at k;exact k.zZ<|hm.pk e
   have P:sz g<sz b:=by have v:=ef (hm.pk e).ne u.ne;rw[<-l]at v;obtain⟨f,rfl⟩:∃f,e=f+1:=⟨e-1,G⟩;have i:=ef (hm.pk f).ne hm.ne;have s:=fo (hm.pk f).ne;have T:=m.1;rw[show pk q (f+1)=pk q f*q from J]at v;omega
   let ⟨L,i,s⟩:=acQ n g G u;refine⟨(q,e)::L,⟨?_,?_,?_,jP.2 ⟨λy w d=>?_,i.Cv⟩⟩,?_⟩
   .intro x a;rcases bZ.1 a with rfl|a
    .exact m
    .exact i.gH x a
   .intro x a;rcases bZ.1 a with rfl|a
    .exact hm
    .exact i.mo x a
   .intro x a;rcases bZ.1 a with rfl|a
    .exact C
    .exact i.pos x a
   .refine t ?_;rw[<-s];have d:q=y.1:=d;rw[d];exact Jg w<|i.pos y w
   .rw[pF,s];exact l.symm
structure Jh(D a B:Rx):Prop where
 mo:Mo D
 l:D∣a
 r:D∣B
 ex:∃b V,D=b*a+V*B
def kW(n:V):V->V:=λm=>if n<=m then 1 else 0
def kP(n:V):V->V:=λm=>if m=n then 1 else 0
def kG:V->V:=λm=>m-1
def acR n:∀m,kW n m<=1:=λm=>by unfold kW;split<;>omega
def Ji n:∀m,kP n m<=1:=λm=>by unfold kP;split<;>omega
def N'{n m}:kW n m=1↔n<=m:=by unfold kW;split<;>omega
def UE{n m}:kP n m=1↔m=n:=by unfold kP;split<;>omega
def UF n L:pF (kW n) L=pF (kP n) L*pF (kW<|n+1) L:=by rw[<-Cw];exact x6 λx _=>by unfold kW kP;split<;>split<;>split<;>omega
def UG{L}(h:FL L):pF id L=pF (kW 1) L*pF kG L:=by rw[<-Cw];exact x6 λx a=>by have:=h.pos x a;show x.2=kW 1 x.2+kG x.2;unfold kW kG;split<;>omega
def Yp(L:E (Rx×V))(n:V)(a:Rx):Prop:=∀x∈L,n<=x.2->x.1∣a-K ((x.2:N)-(n:N)+1)*bA (pF (kW n) L)
def acS:∀{L:E (Rx×V)},FL L->∃b,bA (pF id L)=b*pF kG L/\∀x∈L,x.1∣b-K (x.2:N)*bA (pF (kW 1) L)
 |[],_=>⟨0,by rw[zero_mul];exact aov,λx hx=>by simp at hx⟩
 | (a,m)::L,h=>by
  let ⟨b,g,h2⟩:=acS h.tail;have o:1<=m:=h.pos (a,m) ax;obtain⟨e,rfl⟩:∃e,m=e+1:=⟨m-1,G⟩;have i:pF (kW 1) ((a,e+1)::L)=a*pF (kW 1) L:=by rw[pF,N'.2 G,rW]
  have k:pF kG ((a,e+1)::L)=pk a e*pF kG L:=rfl;have l:pF id ((a,e+1)::L)=pk a e*a*pF id L:=rfl;refine⟨K ((e+1:V):N)*bA a*pF (kW 1) L+a*b,?_,?_⟩
  .rw[l,k,wC,g,show pk a e*a=pk a (e+1)from J,Je,UG h.tail,show pk a (e+1)=pk a e*a from J,add_mul];ac_rfl
  .intro x hx;rw[i,wC];rcases bZ.1 hx with rfl|hx
   .refine⟨b-K ((e+1:V):N)*bA (pF (kW 1) L),?_⟩;show K ((e+1:V):N)*bA a*pF (kW 1) L+a*b-K ((e+1:V):N)*(bA a*pF (kW 1) L+a*bA (pF (kW 1) L))=_;rw[sub_mul];refine sub_eq ?_;rw[mul_add];have d:b*a-K ((e+1:V):N)*bA (pF (kW 1) L)*a+(K ((e+1:V):N)*(bA a*pF (kW 1) L)+K ((e+1:V):N)*(a*bA (pF (kW 1) L)))=(b*a-K ((e+1:V):N)*bA (pF (kW 1) L)*a+K ((e+1:V):N)*bA (pF (kW 1) L)*a)+K ((e+1:V):N)*(bA a*pF (kW 1) L):=fq;rw[d,lF];ac_rfl
   .have n:=h2 x hx;have f:x.1∣pF (kW 1) L:=Jg hx (by rw[N'.2 (h.pos x lj)];omega);rw[mul_add,N2];refine dvd_add (dvd_sub (dQ f _)<|dQ (dQ f _) _) ?_;have d:a*b-K (x.2:N)*(a*bA (pF (kW 1) L))=a*(b-K (x.2:N)*bA (pF (kW 1) L)):=by rw[mul_sub];congr 1;ac_rfl
    rw[d];exact dQ n a
def x7{m:V}(h:m≠0):(m:N)≠0:=λe=>h (by exact_mod_cast e)
def aoy{L}(h:FL L){d}(m:Jh d (pF id L) (bA<|pF id L)):d=pF kG L/\∃b,bA (pF id L)=b*d/\Yp L 1 b:=by
 let ⟨b,g,h2⟩:=acS h;have f:=UG h;have i:Co (pF (kW 1) L) b:=FK (wD h.mo).ne λQ l q1 n=>by let ⟨x,a,v,o⟩:=z0 l q1;have p:=dvd_trans (l.assoc (h.gH x a) o) n;have s:=aoq (n5<|h2 x a) p;exact FL.Jf (acR 1) h a (N'.2<|h.pos x a)<|aou (x7<|by have:=h.pos x a;omega) s
 let ⟨t,u,k⟩:=i;let ⟨d1,d2,d3,U,w,d4⟩:=m;have e:d=pF kG L:=by
  refine d1.eq (wD h.mo) ?_ ?_
  .have:pF kG L=t*pF id L+u*bA (pF id L):=by rw[f,<-f,g,<-mul_assoc,f,<-mul_assoc,<-add_mul,k,one_mul]
   rw[this];exact dvd_add (dQ d2 _)<|dQ d3 _
  .rw[d4,g];refine dvd_add (dQ ?_ _)<|dQ (dvd_mul_left _ _) _;rw[f];exact dvd_mul_left _ _
 refine⟨e,b,by rw[e];exact g,λx a _=>?_⟩;rw[show(x.2:N)-((1:V):N)+1=(x.2:N)by show(x.2:N)-1+1=_;grind];exact h2 x a
end Rx
def bC:V->V
 |0=>1
 |n+1=>(n+1)*bC n
def Jj:∀n,0<bC n
 |0=>Nat.one_pos
 |n+1=>zH (Nat.succ_pos n)<|Jj n
def uU:∀i a,ch (i+a) i*(bC i*bC a)=bC (i+a)
 |0,a=>by rw[eP,rQ,bC,iG,iG]
 |i+1,0=>by rw[jv,IS,show bC 0=1 from J,oW,iG]
 |i+1,a+1=>by
  have b:=uU i<|a+1;have d:=uU (i+1) a;rw[(G:i+1+(a+1)=(i+(a+1))+1),ch,show bC (i+(a+1)+1)=(i+(a+1)+1)*bC (i+(a+1))from J,gy];rw[(G:i+(a+1)=i+1+a)]at b⊢;have f:ch (i+1+a) i*(bC (i+1)*bC (a+1))=(i+1)*bC (i+1+a):=by rw[<-b,bC];ac_rfl
  have g:ch (i+1+a) (i+1)*(bC (i+1)*bC (a+1))=(a+1)*bC (i+1+a):=by rw[<-d,show bC (a+1)=(a+1)*bC a from J];ac_rfl
  rw[f,g,<-gy,(G:i+1+(a+1)=i+1+a+1)]
def sN(f:V->V):V->V
 |0=>0
 |k+1=>sN f k+f k
def acT{f g:V->V}:∀{k:V},(∀i,i<k->f i=g i)->sN f k=sN g k
 |0,_=>rfl
 |k+1,h=>by rw[sN,sN,acT<|λi a=>h i G,h k G]
def acU(f g:V->V):∀k,sN (λi=>f i+g i) k=sN f k+sN g k
 |0=>rfl
 |k+1=>by simp only[sN,acU f g k];omega
def Oa(f:V->V):∀k,sN f (k+1)=f 0+sN (λi=>f<|i+1) k
 |0=>by simp[sN]
 |k+1=>by rw[sN,Oa f k,sN];omega
def UH(f:V):∀a k,ch (a+f) k=sN (λt=>ch a t*ch f (k-t)) (k+1)
 |0,k=>by
  rw[Oa,rQ,iG,eP,BW];have:sN (λi=>ch 0 (i+1)*ch f (k-(i+1))) k=0:=by
   have e:∀b,sN (λi=>ch 0 (i+1)*ch f (k-(i+1))) b=0:=λb=>by
    induction b with
    |zero=>rfl
    |succ n d=>rw[sN,d,zN 0 (n+1) G,qf]
   exact e k
  rw[this];rfl
 |a+1,0=>by rw[rQ,sN,sN,rQ,rQ]
 |a+1,k+1=>by
  rw[(G:a+1+f=a+f+1),ch,UH f a k,UH f a<|k+1,Oa<|λt=>ch (a+1) t*ch f (k+1-t),Oa<|λt=>ch a t*ch f (k+1-t)];have e:sN (λi=>ch (a+1) (i+1)*ch f (k+1-(i+1))) (k+1)=sN (λi=>ch a i*ch f (k-i)) (k+1)+sN (λi=>ch a (i+1)*ch f (k+1-(i+1))) (k+1):=by
   rw[<-acU];refine acT λi _=>?_
   rw[ch,gy,(G:k+1-(i+1)=k-i)]
  rw[e,rQ,rQ];omega
def x8{f:V->Y}{a:V}:∀{n:V},a<n->(∀i,i<n->i≠a->f i=0)->sm f n=f a
 |0,h,_=>by omega
 |n+1,h,b=>by
  rw[sm];by_cases d:a=n
  .subst d;rw[qF (λi g=>b i G G),Cd]
  .rw[x8 (n:=n) G (λi g=>b i G),b n G G,rK]
def acV(f:V->V):∀k,((sN f k:V):Y)=sm (λi=>((f i:V):Y)) k
 |0=>rfl
 |k+1=>by rw[sN,sm,xM,acV f k]
def tb(a:V->V->Y)(m:V):∀n,sm (λi=>sm (λb=>a i b) m) n=sm (λb=>sm (λi=>a i b) n) m
 |0=>(qF λ_ _=>rfl).symm
 |n+1=>by rw[sm,tb a m n,<-NN];rfl
def Ob{f:V->Y}:∀{n:V},(∀i,i<n->0<=f i)->0<=sm f n
 |0,_=>hY _
 |n+1,h=>by
  have a:=Ob (f:=f) (n:=n) λi b=>h i G
  have d:=h n G;rw[sm];omega
def Jk{f g:V->Y}:∀{n:V},(∀i,i<n->f i<=g i)->sm f n<=sm g n
 |0,_=>hY _
 |n+1,h=>by
  have a:=Jk (f:=f) (g:=g) (n:=n) λi b=>h i G
  have d:=h n G;rw[sm,sm];omega
def Oc{f:V->Y}{a n}(d:a<n)(h:∀i,i<n->0<=f i):f a<=sm f n:=by
 have e:sm (λi=>if i=a then f a else 0) n=f a:=(x8 d λi _ b=>y b).trans<|q J;rw[<-e];refine Jk λi b=>?_
 split
 .rename_i e;subst e;exact hY _
 .exact h i b
def s2(k l:V)(b:V->V->Y):Y:=sm (λa=>sm (λe=>b a e)<|l+1)<|k+1
def uV{k l}{d f:V->V->Y}(h:∀a b,a<=k->b<=l->d a b=f a b):s2 k l d=s2 k l f:=gG λa g=>gG λb i=>h a b G G
def wE k l b(d:V->V->Y):s2 k l (λa f=>b*d a f)=b*s2 k l d:=by unfold s2;rw[<-zL];exact gG λa _=>zL _ _ _
def UI k l b(d:V->V->Y):s2 k l (λa f=>d a f*b)=s2 k l d*b:=by rw[eW,<-wE];exact uV λ_ _ _ _=>eW _ _
def Od k l d f(g:V->V->V->V->Y):s2 k l (λa b=>s2 d f<|λt s=>g a b t s)=s2 d f (λt s=>s2 k l<|λa b=>g a b t s):=by
 unfold s2;have h:∀a,sm (λb=>sm (λt=>sm (λs=>g a b t s)<|f+1)<|d+1) (l+1)=sm (λt=>sm (λs=>sm (λb=>g a b t s)<|l+1)<|f+1) (d+1):=λa=>by rw[tb];exact gG λt _=>tb _ _ _
 rw[gG λa _=>h a,tb];exact gG λt _=>tb _ _ _
def aoz{k l}{d f:V->V->Y}(h:∀a b,a<=k->b<=l->d a b<=f a b):s2 k l d<=s2 k l f:=Jk λa g=>Jk λb i=>h a b G G
def aoA{k l}{b:V->V->Y}{a e}(d:a<=k)(m:e<=l)(h:∀a e,a<=k->e<=l->0<=b a e):b a e<=s2 k l b:=by refine te (Oc (f:=λe=>b a e) (a:=e) (n:=l+1) G λi g=>h a i d G) ?_;exact Oc (f:=λa=>sm (λe=>b a e)<|l+1) (a:=a) (n:=k+1) G λi g=>Ob λj o=>h i j G G
def aoB{k l}{m:V->V->Y}{a g}(o:a<=k)(s:g<=l)(h:∀i b,i<=k->b<=l->¬(i=a/\b=g)->m i b=0):s2 k l m=m a g:=by unfold s2;rw[x8 (a:=a) G λi t d=>qF λb p=>h i b G G λn=>d n.1];exact x8 (f:=λg=>m a g) (a:=g) G λb p d=>h a b o G λn=>d n.2
def eta(t s a b:V):Y:=if t<=a/\s<=b/\a-t=b-s then((ch a t*ch b s*bC (a-t):V):Y)else 0
def acW{k l a e a' f}(ha:a<=k)(he:e<=l)(d:a'<=k)(hf:f<=l):(if a+f=a'+e then((bC (a+f):V):Y)else 0)=s2 k l (λt s=>((bC t*bC s:V):Y)*(eta t s a e*eta t s a' f)):=by
 by_cases h:a+f=a'+e
 .rw[q h,h,<-uU a' e,<-h,UH f a a',fC,acV];have x:sm (λt=>((ch a t*ch f (a'-t):V):Y)) (a'+1)=sm (λt=>((ch a t*ch f (a'-t):V):Y)*(if t<=a' then 1 else 0)) (k+1):=by
   have B:∀n,a'<=n->sm (λt=>((ch a t*ch f (a'-t):V):Y)*(if t<=a' then 1 else 0)) (n+1)=sm (λt=>((ch a t*ch f (a'-t):V):Y)) (a'+1):=λn r=>by
    induction n with
    |zero=>
     have:a'=0:=G
     subst this
     exact gG λi C=>by rw[q G,ni]
    |succ n H=>
     by_cases K:a'<=n
     .rw[sm,H K,y G,gY,rK]
     .have:a'=n+1:=by omega
      subst this;exact gG λi C=>by rw[q G,ni]
   exact(B k d).symm
  rw[x,<-Uf];unfold s2;refine gG λt L=>?_
  by_cases g:t<=a'/\t<=a/\a-t<=e
  .let ⟨g,h2,P⟩:=g;rw[q g,ni];rw[x8 (a:=e-(a-t)) G λs o Q=>?_]
   .have b:t<=a/\e-(a-t)<=e/\a-t=e-(e-(a-t)):=by omega
    have T:t<=a'/\e-(a-t)<=f/\a'-t=f-(e-(a-t)):=G;dsimp only;rw[eta,q b,eta,q T];have W:=uU t<|a-t;have p:=uU (e-(a-t))<|a-t;have u:=uU t<|a'-t;have v:=uU (e-(a-t))<|a'-t;have w:=uU (a'-t)<|e-(a-t);rw[(G:t+(a-t)=a)]at W;rw[(G:e-(a-t)+(a-t)=e)]at p;rw[(G:t+(a'-t)=a')]at u;rw[(G:e-(a-t)+(a'-t)=f)]at v;rw[(G:a'-t+(e-(a-t))=f)]at w;have m:ch a t*ch f (a'-t)*(bC a'*bC e)=bC t*bC (e-(a-t))*(ch a t*ch e (e-(a-t))*bC (a-t)*(ch a' t*ch f (e-(a-t))*bC (a'-t))):=by rw[<-u,<-p];have X:ch f (a'-t)*(bC (a'-t)*bC (e-(a-t)))=ch f (e-(a-t))*(bC (e-(a-t))*bC (a'-t)):=w.trans v.symm;have c:ch a t*ch f (a'-t)*(ch a' t*(bC t*bC (a'-t))*(ch e (e-(a-t))*(bC (e-(a-t))*bC (a-t))))=ch a t*ch a' t*bC t*ch e (e-(a-t))*bC (a-t)*(ch f (a'-t)*(bC (a'-t)*bC (e-(a-t)))):=fq;rw[c,X];ac_rfl
    rw[<-fC,<-fC,<-fC,m]
   .have:¬(t<=a/\s<=e/\a-t=e-s):=by omega
    dsimp only;rw[eta,y this,nh,gY]
  .have j:((ch a t*ch f (a'-t):V):Y)*(if t<=a' then 1 else 0)=0:=by
    by_cases h2:t<=a'
    .by_cases P:t<=a
     .rw[zN f (a'-t) G,Nat.mul_zero];simp
     .rw[zN a t G,qf];simp
    .rw[y h2,gY]
   rw[j,nh];refine(qF λs o=>?_).symm;by_cases b:t<=a/\s<=e/\a-t=e-s
   .have:¬(t<=a'/\s<=f/\a'-t=f-s):=by omega
    dsimp only;rw[show eta t s a' f=0 by rw[eta,if_neg this],Jl,Jl]
   .dsimp only;rw[eta,if_neg b,Int.zero_mul,Jl]
 .rw[y h];unfold s2;refine(qF λt L=>qF λs o=>?_).symm;by_cases b:t<=a/\s<=e/\a-t=e-s
  .have:¬(t<=a'/\s<=f/\a'-t=f-s):=by omega
   dsimp only;rw[show eta t s a' f=0 by rw[eta,if_neg this],Jl,Jl]
  .dsimp only;rw[eta,if_neg b,Int.zero_mul,Jl]
def acX t s:eta t s t s=1:=by rw[eta,q G,IS,IS,kg];rfl
def Cx(x:Y):0<=x*x:=by
 rcases Int.le_total 0 x with h|h
 .exact jB h h
 .have:=jB (a:= -x) (b:= -x) G G;rwa[Int.neg_mul_neg]at this
def aoC k l(g:V->V->Y):
  s2 k l (λt s=>((bC t*bC s:V):Y)*((bC (k-t)*bC (l-s):V):Y)*(g t s*g t s))<=
  s2 k l (λa b=>s2 k l<|λd f=>g a b*g d f*((if a+f=d+b then((bC (a+f):V):Y)else 0)*(if(k-a)+(l-f)=(k-d)+(l-b)then((bC ((k-a)+(l-f)):V):Y)else 0))):=by
 have o:s2 k l (λa b=>s2 k l<|λd f=>g a b*g d f*((if a+f=d+b then((bC (a+f):V):Y)else 0)*(if(k-a)+(l-f)=(k-d)+(l-b)then((bC ((k-a)+(l-f)):V):Y)else 0)))=
   s2 k l (λt s=>s2 k l<|λh m=>((bC t*bC s:V):Y)*((bC h*bC m:V):Y)*(s2 k l (λa b=>g a b*(eta t s a b*eta h m (k-a) (l-b)))*s2 k l (λa b=>g a b*(eta t s a b*eta h m (k-a) (l-b))))):=by
  have p:∀a b,a<=k->b<=l->s2 k l (λd f=>g a b*g d f*((if a+f=d+b then((bC (a+f):V):Y)else 0)*(if(k-a)+(l-f)=(k-d)+(l-b)then((bC ((k-a)+(l-f)):V):Y)else 0)))=s2 k l (λt s=>s2 k l<|λh m=>((bC t*bC s:V):Y)*((bC h*bC m:V):Y)*(g a b*(eta t s a b*eta h m (k-a) (l-b))*s2 k l (λa b=>g a b*(eta t s a b*eta h m (k-a) (l-b))))):=by
   intro a b u v;have w:∀d f,d<=k->f<=l->g a b*g d f*((if a+f=d+b then((bC (a+f):V):Y)else 0)*(if(k-a)+(l-f)=(k-d)+(l-b)then((bC ((k-a)+(l-f)):V):Y)else 0))=s2 k l (λt s=>s2 k l<|λh m=>((bC t*bC s:V):Y)*((bC h*bC m:V):Y)*(g a b*(eta t s a b*eta h m (k-a) (l-b))*(g d f*(eta t s d f*eta h m (k-d) (l-f))))):=by
    intro d f n x;rw[acW u v n x,acW (k:=k) (l:=l) (a:=k-a) (e:=l-b) (a':=k-d) (f:=l-f) G G G G,<-UI,<-wE];refine uV λt s _ _=>?_
    rw[<-wE,<-wE];refine uV λh m _ _=>?_
    ac_rfl
   rw[uV w,Od];refine uV λt s _ _=>?_
   rw[Od];refine uV λh m _ _=>?_
   rw[<-wE,<-wE]
  rw[uV p,Od]
  refine uV λt s _ _=>?_
  rw[Od]
  refine uV λh m _ _=>?_
  rw[wE,UI]
 rw[o]
 refine aoz λt s B C=>?_
 refine te (acY ?_)<|aoA (k:=k) (l:=l) (a:=k-t) (e:=l-s) G G λh m _ _=>jB (jB (qP _)<|qP _)<|Cx _
 have H:s2 k l (λa b=>g a b*(eta t s a b*eta (k-t) (l-s) (k-a) (l-b)))=g t s:=by
  rw[aoB B C λi j L P K=>?_]
  .rw[acX,acX,ni,ni]
  .by_cases c1:t<=i/\s<=j/\i-t=j-s
   .have:¬(k-t<=k-i/\l-s<=l-j/\k-i-(k-t)=l-j-(l-s)):=by omega
    rw[show eta (k-t) (l-s) (k-i) (l-j)=0 by rw[eta,y this],gY,gY]
   .rw[eta,y c1,nh,gY]
 rw[H]
def Bw(n:V)(a:V->Y):Y:=sm (λi=>((bC i*bC (n-i):V):Y)*(a i*a i))<|n+1
def aoD{b B:PS}{k l i}(o:∀g,k<g->b g=0)(p:∀g,l<g->B g=0):(b*B) i=s2 k l (λa f=>if a+f=i then b a*B f else 0):=by
 rw[PS.fD];unfold s2;have s:∀a,a<=i->b a*B (i-a)=sm (λf=>if a+f=i then b a*B f else 0) (l+1):=λa h=>by
  by_cases e:i-a<=l
  .rw[x8 (a:=i-a) G λf _ t=>y G,q G]
  .rw[p (i-a) G,gY];exact(qF λf K=>y G).symm
 rw[gG λa h=>s a G];have m:∀n,(∀a,n<=a->sm (λf=>if a+f=i then b a*B f else 0) (l+1)=0)->∀d,sm (λa=>sm (λf=>if a+f=i then b a*B f else 0)<|l+1) (n+d)=sm (λa=>sm (λf=>if a+f=i then b a*B f else 0)<|l+1) n:=λn u d=>by
  induction d with
  |zero=>rfl
  |succ d v=>rw[<-q',sm,v,u _ G,rK]
 have w:∀a,i+1<=a->sm (λf=>if a+f=i then b a*B f else 0) (l+1)=0:=λa h=>qF λf _=>y G
 have x:∀a,k+1<=a->sm (λf=>if a+f=i then b a*B f else 0) (l+1)=0:=λa h=>qF λf _=>by rw[o a G,nh,ite_self]
 have C:=m _ w<|k+1;have H:=m _ x<|i+1;rw[<-C,<-H];congr 1;omega
def aoE{d B:PS}{k l}(v:∀g,k<g->d g=0)(w:∀g,l<g->B g=0):Bw k d*Bw l B<=Bw (k+l) (d*B):=by
 have u:=aoC k l<|λa e=>d a*B e;have x:s2 k l (λt s=>((bC t*bC s:V):Y)*((bC (k-t)*bC (l-s):V):Y)*(d t*B s*(d t*B s)))=Bw k d*Bw l B:=by
  unfold Bw s2;rw[<-Uf];refine gG λt _=>?_
  rw[<-zL];refine gG λs _=>?_
  simp only[fC];ac_rfl
 rw[x]at u;refine te u<|acY ?_;have C:Bw (k+l) (d*B)=s2 k l (λa f=>s2 k l<|λb e=>d a*B f*(d b*B e)*(if a+f=b+e then((bC (a+f)*bC (k+l-(a+f)):V):Y)else 0)):=by
  unfold Bw;have H:∀i,i<k+l+1->((bC i*bC (k+l-i):V):Y)*((d*B) i*(d*B) i)=s2 k l (λa f=>s2 k l<|λb e=>d a*B f*(d b*B e)*(if a+f=i then(if b+e=i then((bC i*bC (k+l-i):V):Y)else 0)else 0)):=λi _=>by
   rw[aoD v w,<-UI,<-wE];refine uV λa f _ _=>?_
   rw[<-wE,<-wE];refine uV λb e _ _=>?_
   by_cases c1:a+f=i
   .by_cases n:b+e=i
    .rw[q c1,q c1,q n,q n,eW]
    .rw[y n,y n,ite_self];simp only[gY]
   .rw[y c1,y c1,nh,gY,gY]
  rw[gG H];unfold s2;rw[tb];refine gG λa K=>?_
  rw[tb];refine gG λf L=>?_
  rw[tb];refine gG λb o=>?_
  rw[tb];refine gG λe P=>?_
  rw[zL];congr 1;rw[x8 (a:=a+f) G λi _ p=>y λh=>p h.symm,q J];by_cases c:a+f=b+e
  .rw[q c.symm,q c]
  .rw[y λh=>c h.symm,y c]
 rw[C];unfold s2;refine gG λa K=>?_
 have Q:∀(m:V->V->V->Y),sm (λe=>sm (λb=>sm (λf=>m e b f)<|l+1)<|k+1) (l+1)=sm (λf=>sm (λb=>sm (λe=>m e b f)<|l+1)<|k+1) (l+1):=λm=>by
  rw[tb];have T:sm (λb=>sm (λe=>sm (λf=>m e b f)<|l+1)<|l+1) (k+1)=sm (λb=>sm (λf=>sm (λe=>m e b f)<|l+1)<|l+1) (k+1):=gG λb _=>tb _ _ _
  rw[T,tb]
 rw[Q];refine gG λf L=>gG λb o=>gG λe P=>?_
 by_cases c:a+f=b+e
 .dsimp only;rw[q c,q G,q c,<-fC,(G:k-a+(l-f)=k+l-(a+f))];ac_rfl
 .dsimp only;rw[y c,y c,nh,gY,gY]
def acZ{P:V->Prop}:∀n,P n->∃m,P m/\∀k,k<m->¬P k:=by
 intro n;induction n using Nat.strongRecOn with
 |ind n a=>
  intro h
  by_cases e:∃k,k<n/\P k
  .let ⟨k,b,h2⟩:=e;exact a k b h2
  .exact⟨n,h,λk d f=>e ⟨k,d,f⟩⟩
def aoF{k}(h:2<=k):∃b,dE b/\b∣k:=by
 let ⟨m,⟨g,h2⟩,i⟩:=acZ (P:=λd=>2<=d/\d∣k) k ⟨h,Nat.dvd_refl k⟩;refine⟨m,⟨g,λd f l n=>?_⟩,h2⟩;have a:d<m:=by have:d*2<=d*d:=jk d f;omega
 exact i d a ⟨f,FO (Jm n) h2⟩
def ac0(f:V->Y):∀k,((sm f k:Y):N)=sq (λi=>(f i:N)) k
 |0=>rfl
 |k+1=>by rw[sm,sq,Oe,ac0 f k]
namespace Rx
def c9(a:Rx):Prop:=∀i,a i=((a i).num:N)
def nu(a:Rx):PS:=λi=>(a i).num
def c9.of{a}(h:∀i,∃b:Y,a i=(b:N)):c9 a:=λi=>by let ⟨b,d⟩:=h i;rw[d];rfl
def c9.at{a}(h:c9 a) i:a i=((nu a i:Y):N):=h i
def c9.mul'{a B}(b:c9 a)(d:c9 B) i:(a*B) i=(((nu a*nu B) i:Y):N):=by rw[PS.fD,ac0,fD];exact uR λj _=>by rw[b.at,d.at,fT]
def c9.mul{a B}(b:c9 a)(d:c9 B):c9 (a*B):=c9.of λi=>⟨_,b.mul' d i⟩
def Cy{a B}(b:c9 a)(d:c9 B):nu (a*B)=nu a*nu B:=PS.ext λi=>by show((a*B) i).num=_;rw[b.mul' d i];rfl
def c9.K(a:Y):c9 (K (a:N)):=c9.of λi=>by
 rw[lE];split
 .exact⟨a,J⟩
 .exact⟨0,J⟩
def aoG(a:Y):nu (Rx.K (a:N))=PS.K a:=PS.ext λi=>by show((Rx.K (a:N)) i).num=PS.K a i;rw[lE,PS.K];split<;>rfl
def wF{a}{i}(h:sz a<=i):nu a i=0:=by show(a i).num=0;rw[mb h];rfl
def c9.sub{a B}(b:c9 a)(d:c9 B):c9 (a-B):=c9.of λi=>⟨nu a i-nu B i,by rw[uO,b.at,d.at,Og]⟩
def Oh a:((a.den:V):N)*a=(a.num:N):=by
 have h:=n8 a;rw[Oi,uW,r6]at h;have d:=nq _<|x7<|UJ.1 a.den_pos;have b:((a.den:V):N)*a=((a.den:V):N)*((a.num:N)*((a.den:V):N)⁻¹):=by rw[h]
 rw[b];grind
def aoH b:∃a:V,0<a/\c9 (K ((a:V):N)*b):=by
 have d:∀n,∃a:V,0<a/\∀i,i<n->∃z:Y,(a:N)*b i=(z:N):=by
  intro n;induction n with
  |zero=>exact⟨1,D,λi h=>absurd h G⟩
  |succ n g=>
   let ⟨a,f,h2⟩:=g
   refine⟨a*(b n).den,zH f (b n).den_pos,λi m=>?_⟩
   by_cases e:i=n
   .subst e;refine⟨(a:Y)*(b i).num,?_⟩;rw[fT,z5,l7,Oh];rfl
   .let ⟨z,k⟩:=h2 i G;refine⟨z*((b n).den:Y),?_⟩;rw[fT,<-k,z5,r6];grind
 let ⟨n,l⟩:=b.fin;let ⟨a,f,h2⟩:=d n;refine⟨a,f,c9.of λi=>?_⟩;rw[dZ];by_cases e:i<n
 .exact h2 i e
 .exact⟨0,by rw[l i G,dY];rfl⟩
structure Dn(a:Rx)(m:V):Prop where
 pos:0<m
 int:c9 (K ((m:V):N)*a)
 dvd:∀d:V,c9 (K ((d:V):N)*a)->m∣d
def Jn a:∃m,Dn a m:=by
 let ⟨D,g,h2⟩:=aoH a;let ⟨m,⟨b,f⟩,h⟩:=acZ (P:=λd=>0<d/\c9 (K ((d:V):N)*a)) D ⟨g,h2⟩;refine⟨m,b,f,λd i=>?_⟩;refine Jm<|fc λk=>?_;refine h (d%m) (fN _ b) ⟨G,?_⟩;have e:K ((d%m:V):N)*a=K ((d:V):N)*a-K (((d/m:V):Y):N)*(K ((m:V):N)*a):=by
  have l:((d:V):N)=((d/m:V):N)*((m:V):N)+((d%m:V):N):=by rw[<-z5,<-acM,hJ,ru]
  rw[<-mul_assoc,<-fp,<-sub_mul,<-aor,l,r6];congr 2;grind
 rw[e];exact i.sub<|(c9.K _).mul f
def Dn.ac1{a}(g:Mo a){m}(h:Dn a m){b}(p:dE b):¬∀i,nu (K ((m:V):N)*a) i%(b:Y)=0:=λl=>by
 have s:=p.1;let ⟨n,t⟩:=FN g.ne;have u:nu (K ((m:V):N)*a) n=(m:Y):=by show((K ((m:V):N)*a) n).num=_;rw[dZ,g.at t,nr];rfl
 have v:b∣m:=xU.1<|u▸Fu (l n);let ⟨k,B⟩:=v;have d:0<k:=by
  have:=h.pos;rcases qD k with e|e
  .subst e;omega
  .exact e
 have C:c9 (K ((k:V):N)*a):=c9.of λi=>by let ⟨w,hw⟩:=Fu<|l i;refine⟨w,?_⟩;have o:=h.int.at i;rw[hw,dZ,B,z5,fT,r6]at o;rw[dZ];have H:=nq _<|x7 (G:b≠0);have f:=bh (λx=>((b:V):N)⁻¹ *x) o;rw[<-l7,<-l7,<-l7,H]at f;rw[qL,qL]at f;exact f
 have:=wi d<|h.dvd k C;have:2*k<=b*k:=et k s;omega
def ac2{P f}(u:Mo P)(v:Mo f){a b o}(h:Dn P a)(l:Dn f b)(p:Dn (P*f) o):o=a*b:=by
 have w:c9 (K ((a:V):N)*P*(K ((b:V):N)*f)):=h.int.mul l.int;have s:K ((a:V):N)*P*(K ((b:V):N)*f)=K ((a*b:V):N)*(P*f):=by rw[z5,fp];ac_rfl
 let ⟨k,x⟩:=p.dvd (a*b)<|s▸w;by_cases m:k=1
 .subst m;omega
 have B:=zH h.pos l.pos;have C:0<k:=by
  rcases qD k with e|e
  .subst e;omega
  .exact e
 let ⟨q,hq,n⟩:=aoF (k:=k) G;have H:∀i,(nu (K ((a:V):N)*P)*nu (K ((b:V):N)*f)) i%(q:Y)=0:=λi=>by have g:=h.int.mul' l.int i;rw[s,x,z5,fp,mul_comm (K _)<|K _,mul_assoc,dZ,p.int.at i,<-r6,<-fT]at g;rw[<-x9.1 g];exact Cf<|Jo (xU.2 n)<|Int.dvd_mul_right _ _
 have t:∀A:Rx,Dl (q:Y) (sz A) (nu A):=λA i L=>by rw[wF L,gZ]
 rcases FA (t<|K ((a:V):N)*P)with g|⟨d,_,d1,d2⟩
 .exact absurd (λi=>by have:=g.at i;rwa[PS.l3,gZ]at this)<|h.ac1 u hq
 rcases FA (t<|K ((b:V):N)*f)with g|⟨e,_,f1,f2⟩
 .exact absurd (λi=>by have:=g.at i;rwa[PS.l3,gZ]at this)<|l.ac1 v hq
 exact absurd (H<|d+e)<|Go.El.Cp hq d2 f2 d1 f1
def nO(n:V)(a:PS):Y:=sm (λi=>(aA (a i):Y))<|n+1
def ac3(f:V->Y):∀n,(∀i,0<=f i)->sm (λi=>f i*f i) n<=sm f n*sm f n
 |0,_=>by simp[sm]
 |n+1,h=>by
  have b:=ac3 f n h;have a:=Ob (f:=f) (n:=n) λi _=>h i
  have d:=jB a<|h n;rw[sm,sm,nU,oA,oA,eW (f n)<|sm f n];omega
def aoI n(a:PS):Bw n a<=((bC n:V):Y)*(nO n a*nO n a):=by
 unfold Bw nO;have d:=ac3 (λi=>(aA (a i):Y)) (n+1)<|λ_=>qP _;refine te ?_<|kU d<|qP _;rw[<-zL];refine Jk λi k=>?_
 have f:bC i*bC (n-i)<=bC n:=by
  have b:=uU i<|n-i;rw[(G:i+(n-i)=n)]at b;have g:0<ch n i:=by
   rcases qD (ch n i)with e|e
   .rw[e,qf]at b;have:=Jj n;omega
   .exact e
  rw[<-b];exact NT _ g
 have h:(aA (a i):Y)*(aA (a i):Y)=a i*a i:=by rw[<-fC,aoJ]
 rw[h];exact hZ (Oj.2 f)<|Cx _
def ac4 n:∀k,ch n k<=2^n:=by
 induction n with
 |zero=>
  intro k
  cases k with
  |zero=>exact aT _
  |succ k=>exact bf _
 |succ n a=>
  intro k
  have b:=km (n:=n) (D:0<2)
  rw[fQ]
  cases k with
  |zero=>rw[rQ];omega
  |succ k=>
   have:=a k
   have:=a<|k+1
   rw[ch];omega
def aoK{x b}(d:0<=b)(h:x*x<=b*b):(aA x:Y)<=b:=by
 refine fc λg=>?_
 have i:((aA x:Y))*aA x=x*x:=by rw[<-fC,aoJ]
 have f:b<aA x:=G;have k:b*b<(aA x:Y)*aA x:=by have l:=kU (a:=b) (G:b<=(aA x:Y)) d;have m:=ID f (G:(0:Y)<aA x);omega
 omega
def ac5{A B}{k l}(m:∀b,k<b->A b=0)(v:∀b,l<b->B b=0)(o:B l≠0) i:(aA (A i):Y)<=2^(k+l)*nO (k+l) (A*B):=by
 have d:0<=nO (k+l) (A*B):=Ob λ_ _=>qP _
 have g:(0:Y)<=2^(k+l):=Int.le_of_lt<|nT D;by_cases w:k<i
 .rw[m i w];exact jB g d
 refine aoK (jB g d) ?_;have x:=te (aoE m v)<|aoI (k+l)<|A*B;have p:((bC l:V):Y)<=Bw l B:=by
  have:=Oc (f:=λi=>((bC i*bC (l-i):V):Y)*(B i*B i)) (a:=l) (n:=l+1) G λi _=>jB (qP _)<|Cx _
  refine te ?_ this;rw[kg,show bC 0=1 from J,oW];have h:1<=B l*B l:=by have s:=Cx<|B l;have t:B l*B l≠0:=z6 o o;omega
  have:=kU h<|qP<|bC l;rwa[ni]at this
 have h:((bC i*bC (k-i):V):Y)*(A i*A i)<=Bw k A:=Oc (f:=λi=>((bC i*bC (k-i):V):Y)*(A i*A i)) (a:=i) (n:=k+1) G λi _=>jB (qP _)<|Cx _
 have s:((bC i*bC (k-i):V):Y)*(A i*A i)*((bC l:V):Y)<=((bC (k+l):V):Y)*(nO (k+l) (A*B)*nO (k+l) (A*B)):=by refine te ?_ x;refine te (kU p<|jB (qP _)<|Cx _) ?_;exact hZ h<|te (qP _) p
 have t:bC (k+l)=bC i*bC (k-i)*bC l*(ch (k+l) k*ch k i):=by have C:=uU k l;have u:=uU i<|k-i;rw[(G:i+(k-i)=k)]at u;rw[<-C,<-u];ac_rfl
 have H:ch (k+l) k*ch k i<=2^(k+l)*2^(k+l):=l0 (ac4 _ _)<|b6 (ac4 _ _)<|eZ D G;have K:0<bC i*bC (k-i)*bC l:=zH (zH (Jj _)<|Jj _)<|Jj _;generalize nO (k+l) (A*B)=S at*;have L:((bC i*bC (k-i)*bC l:V):Y)*(A i*A i)<=((bC i*bC (k-i)*bC l:V):Y)*((2^(k+l)*2^(k+l))*(S*S)):=by
  have P:((bC i*bC (k-i)*bC l:V):Y)*(A i*A i)=((bC i*bC (k-i):V):Y)*(A i*A i)*((bC l:V):Y):=by rw[fC];ac_rfl
  rw[P];refine te s ?_;rw[t,fC,jo];refine kU ?_<|qP _;refine hZ ?_<|Cx S;have:=Oj.2 H;rw[fC (2^(k+l)),uL]at this;exact this
 have Q:=Int.le_of_mul_le_mul_left L<|Int.natCast_pos.2 K;refine te Q<|acY ?_;ac_rfl
end Rx
def r7:E V:=[1073741827,1073741831,1073741833,1073741839,1073741843,1073741857,1073741891,1073741909,1073741939,1073741953,1073741969,1073741971,
 1073741987,1073741993,1073742037,1073742053,1073742073,1073742077,1073742091,1073742113,1073742169,1073742203,1073742209,1073742223,
 1073742233,1073742259,1073742277,1073742289,1073742343,1073742353,1073742361,1073742391,1073742403,1073742463,1073742493,1073742517,
 1073742583,1073742623,1073742653,1073742667,1073742671,1073742673,1073742707,1073742713,1073742721,1073742731,1073742767,1073742773,
 1073742811,1073742851,1073742853,1073742881,1073742889,1073742913,1073742931,1073742937,1073742959,1073742983,1073743007,1073743037,
 1073743049,1073743051,1073743079,1073743091,1073743093,1073743123,1073743129,1073743141,1073743159,1073743163,1073743189,1073743199,
 1073743207,1073743243,1073743291,1073743303,1073743313,1073743327,1073743331,1073743337,1073743381,1073743387,1073743393,1073743397,
 1073743403,1073743417,1073743421,1073743427,1073743457,1073743459,1073743469,1073743501,1073743507,1073743513,1073743543,1073743577,
 1073743591,1073743633,1073743739,1073743757,1073743831,1073743861,1073743871]
def Jp:V->V->V
 |0,l=>l+1
 |d+1,l=>Jp d (2*l)*Jp d (2*l+1)
def UK:∀(d l x:V),x<2^d->2^d*l+x+1∣Jp d l
 |0,l,x,h=>by have:x=0:=eh;subst this;rw[oC,iG,jv];exact Nat.dvd_refl _
 |d+1,l,x,h=>by
  rw[fQ]at h⊢;by_cases e:x<2^d
  .have:=UK d (2*l) x e;rw[(fq:2^d*(2*l)=2^d*2*l)]at this;exact Nat.dvd_mul_right_of_dvd this _
  .have:=UK d (2*l+1) (x-2^d) G;rw[show 2^d*(2*l+1)+(x-2^d)=2^d*2*l+x by rw[zO,(fq:2^d*(2*l)=2^d*2*l)];omega]at this;exact aoL this _
def qQ(l:E V):V:=l.foldr (·*·) 1
def aoM{l}{x}(h:x∈l):x∣qQ l:=by
 induction l with
 |nil=>cases h
 |cons y l a=>
  rcases bZ.1 h with rfl|h
  .exact Nat.dvd_mul_right _ _
  .exact aoL (a h) _
def aoN:Nat.gcd (qQ r7) (Jp 15 0)=1:=eL
def aoO:(r7.all λp=>Nat.blt 1073741824 p&&Nat.blt p 1073743872)=true:=eL
def ac6{p}(h:p∈r7):1073741824<p/\p<1073743872:=by have:=mn.1 aoO p h;rw[cD]at this;exact⟨cP this.1,cP this.2⟩
def aoP{p}(h:p∈r7):dE p:=by
 let ⟨k,h2⟩:=ac6 h;refine⟨G,λd l b f=>?_⟩;have m:d<=32768:=by
  by_cases e:d<=32768
  .exact e
  .have:=l0 (G:32769<=d) (G:32769<=d);omega
 have g:d∣Jp 15 0:=by have:=UK 15 0 (d-1) (G:d-1<32768);rwa[Nat.mul_zero,eP,(G:d-1+1=d)]at this
 have i:d∣qQ r7:=FO (Jm f)<|aoM h;have a:=Nat.dvd_gcd i g;rw[aoN]at a;have:=wi D a;omega
end Go.El
