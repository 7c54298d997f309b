/- Contracts: the value of a polynomial in several variables. Own work; no condition. -/
import Derived.OpenShut
import Derived.SizedLaws
import Derived.Test.YtceihkmakfdcnaaGreatA14
import Derived.Test.YtceihkmakfdcnaaGreatA1
set_option linter.all false
set_option maxHeartbeats 16000000
set_option maxRecDepth 100000
open Bool renaming false->ah
open Go renaming Program->bZ,TypeId->dI,Value->a4,DataW->zi
open Go.Addr renaming add->UM
open Go.DataW renaming trod->lD,weightsEach->BI,weightsAll->Om,weights->UN
open Go.El renaming cS->I,rr->N,asM->R,Pb->U,re->s,cI->j,rb->w,Cy->y
open Go.Proofs.Tryz renaming prog->z
open Int renaming toNat->ae,natAbs->aC
open List renaming getD->E,length->Z,replicate->bp,mapM_nil->afe,drop->az,range->cc
open Option renaming some->ad
open _root_ renaming List->V,Rat->D,Nat->Y,Int->O
namespace Go.El
open Go Go.Proofs Go.RowKit Rx
def iw(g m:V D):Y->V D->V D
 |0,t=>t
 |n+1,t=>fm (iw g m n t) g m
def vT(g:Y->V D)(m:V D)(c:MO.den):Y->V D->V D
 |0,t=>t
 |a+1,t=>iw (g a) m (ae<|mx c a)<|vT g m c a t
abbrev c0(c:D):V D:=iX c [1]
def xo(g:Y->V D)(m:V D)(x:TE.den):V D:=vT g m x.2 8<|c0 x.1
def vL(g:Y->V D)(m:V D)(p:V TE.den):Y->V D
 |0=>[]
 |n+1=>jz (vL g m p n)<|xo g m<|E p n TE.aD
def xp(g:Y->V D)(m:V D):Prop:=∀j,j<8->Pz 4 32 (g j)/\(g j).length<Z m
abbrev jt(g:Y->V D):V C:=[.S .q (g 0),.S .q<|g 1,.S .q<|g 2,.S .q<|g 3,.S .q<|g 4,.S .q<|g 5,.S .q<|g 6,.S .q<|g 7]
def Ez(m:V D)(t:Y)(a:V D):Prop:=Pz 4 t a/\Z a<Z m
def EL{t}{x}(a:Pz 4 t x):Pz 12 t x:=a.le T<|a7 _
def Ez.le{m}{t u}{a}(c:Ez m t a)(k:t<=u):Ez m u a:=⟨c.1.le (a7 _) k,c.2⟩
def Ez.mul{m a c}{t u}(g:gD m)(d:Ez m t a)(f:Ez m u c)(i:t+u+200<3200000000):Ez m (t+u+28) (fm a c m):=by let ⟨k,h2,_,_⟩:=UB g (EL d.1) (EL f.1) d.2 f.2 i;exact⟨k,h2⟩
def Ez.add{m a c}{t u}(d:Ez m t a)(f:Ez m u c):Ez m (t+u+1) (jz a c):=by refine⟨(d.1.add f.1).le T<|a7 _,uv (uK _) ?_⟩;rw[cR,wG];have:=d.2;have:=f.2;omega
def Oh{m g t:V D}{a:Y}(c:gD m)(d:Ez m 32 g)(f:Ez m a t)(i:a<=100000):∀n,n<=1000->Ez m (a+60*n) (iw g m n t)
 |0,_=>f
 |n+1,k=>by have:=(Oh c d f i n G).mul c d G;exact this.le G
def Oi{m t:V D}{g:Y->V D}{d:MO.den}{c:Y}(f:gD m)(i:xp g m)(k:bM 6 d)(l:Ez m c t)(n:c<=50000):∀a,a<=8->Ez m (c+360*a) (vT g m d a t)
 |0,_=>l
 |a+1,p=>by have r:=k a G;exact(Oh f (i a G) (Oi f i k l n a G) G _ G).le G
def ae5{z}{a}(c:aC z<=2^a):Ht (2^a) (K (z:D)):=⟨1,T,Nat.one_le_two_pow,λi=>by
 rw[nk];split
 .exact⟨z,c,by rw[show(((1:O)):D)=1 from J,qP]⟩
 .exact⟨0,be _,fN _⟩⟩
def BH{m}{c}(f:gD m)(g:∃d:O,c=(d:D)/\aC d<=20000):Ez m 15 (c0 c):=by let ⟨d,e,i⟩:=g;subst e;refine⟨((aeO 4 0 T).scl<|ae5 (a:=15) G).le (a7 _) G,uv (uK _) ?_⟩;have:=f.l2;simp;omega
def ae6{m}{c}(a:gD m)(d:∃f:O,c=(f:D)/\aC f<=20000):eY (c0 c) m=c0 c:=
 akU (BH a d).1.can (BH a d).1.can a.can a.ne (BH a d).2 (mJ _ _)
def UL{m}{g:Y->V D}{x:TE.den}(a:gD m)(d:xp g m)(c:TO 20000 6 x):Ez m 2895 (xo g m x):=Oi a d c.2 (BH a c.1) T 8<|a7 _
def xq{m:V D}{g:Y->V D}{p:V TE.den}(a:gD m)(c:xp g m)(d:∀x∈p,TO 20000 6 x):∀n,n<=Z p->Ez m (2896*n) (vL g m p n)
 |0,_=>⟨Pz.nil _ _,by have:=a.l2;show 0<_;omega⟩
 |n+1,f=>((xq a c d n G).add<|UL a c<|zf d G).le G
def arq:al z 78 [j 0] (I .q [1]):=fO (l:=[]) e dD J J
def zh{m}(B:gD m){g:Y->V D}(L:xp g m){p}(hp:∀x∈p,TO 20000 6 x)(lp:Z p<=40):al z 55 [I TE p,.a<|jt g,I .q m] (I .q<|vL g m p<|Z p):=by
 refine aR Tryz.func55 ?_;refine N J<|N J ?_;refine jk ⟨[(7,I .q<|vL g m p<|Z p)],[],20,[]⟩ ?_<|λb=>?_
 .exact N J<|cx J
 refine N J<|R<|aY (α:=Y) (λi=>⟨[(13,I TE p),(14,j<|Z p),(15,j i),(2,I .q m),(4,.c<|.P 0 0),(7,I .q<|vL g m p i)],[(0,.box 81 0<|jt g)],3,[]⟩) (λi=>i<=Z p) (λi=>Z p-i) 0 (be _) (wk ⟨sR J,sR J,sR J,sR J,sR J,⟨_,J,bf.nil _⟩,e⟩ ⟨bR J,e⟩) ?_;intro i hi;have ei:ae ((i:O))=i:=bW i;refine N J<|U<|y J (λh=>?_)<|λh=>?_
 .have h:i<Z p:=by have h:(i:O)<(Z p:O):=aK h;omega
  have K:=zf (d:=TE.aD) hp h;have M:=BH B K.1;have o:al z 75 [aQ (E p (ae<|(i:O)) TE.aD).1,I .q [1]] (I .q<|c0 (E p i TE.aD).1):=by rw[ei];exact(aeO 1 0 T).aqW (K.qs T) T T T
  have fA:al z 17 [I .q (c0 (E p i TE.aD).1),I .q m] (I .q<|c0 (E p i TE.aD).1):=by have:=M.1.aeN B.pz B.ne (d:=10) (s:=100) (by have:=M.1.len;omega) T T T T;rwa[ae6 B K.1]at this
  have zv:=xq B L hp i G;have zt:=UL B L K;have Q:al z 106 [I .q (vL g m p i),I .q<|xo g m<|E p i TE.aD] (I .q<|vL g m p<|i+1):=zv.1.aqU zt.1 (s:=10000) T T G T T;refine aA<|U<|R<|N J (w<|rc J J arq<|rc J J o<|rc J J fA<|s J ?_) (hp:=aF);refine jk ⟨[(13,I TE p),(14,j<|Z p),(15,j i),(2,I .q m),(4,.c<|.P 0 0),(7,I .q<|vL g m p i),(10,I .q<|xo g m<|E p i TE.aD)],[(0,.box 81 0<|jt g)],16,[]⟩ ?_<|λS=>?_
  .refine bT<|rc J J Q<|s J<|aX<|rt J<|aG (i+1) h Oc aH
  obtain⟨k,he⟩:∃k,k=(E p i TE.aD).2:=⟨_,J⟩;obtain⟨W,H⟩:∃W,W=c0 (E p i TE.aD).1:=⟨_,J⟩;have X:bM 6 k:=by rw[he];exact K.2
  have M:Ez m 15 W:=by rw[H];exact M
  obtain⟨u,V0,C,V8,Vz⟩:∃u:Y->V D,u 0=W/\(∀n,u (n+1)=iw (g n) m (ae<|mx k n) (u n))/\u 8=xo g m (E p i TE.aD)/\∀n,n<=8->Ez m (15+360*n) (u n):=⟨λn=>vT g m k n W,J,λn=>rfl,by rw[he,H];rfl,λn hj=>Oi B L X M T n hj⟩;refine N J<|R<|aY (α:=Y) (λn=>⟨[(13,I TE p),(14,j<|Z p),(15,j i),(2,I .q m),(4,.c<|.P 0 0),(7,I .q<|vL g m p i),(26,aM k),(27,j n),(10,I .q<|u n)],[(0,.box 81 0<|jt g)],9,[]⟩) (λn=>n<=8) (λn=>8-n) 0 T (wk ⟨sR J,sR J,sR J,sR J,sR J,sR J,sE J ?_,sR J,sE J ?_,e⟩ ⟨bR J,e⟩) ?_
  .show aM (E p (ae<|(i:O)) TE.aD).2=_;rw[ei,he]
  .rw[V0,H]
  intro n hj;refine N J<|U<|y J (λA=>?_)<|λA=>?_
  .have A:n<8:=by have A:(n:O)<8:=aK A;omega
   have F:=X n A;have zj:=Vz n G;have v:∀f,f<=6->al z 19 [I .q (iw (g n) m f<|u n),I .q<|g n,I .q m] (I .q<|iw (g n) m (f+1)<|u n):=λf t=>by have zs:=Oh B (L n A) zj G f G;let ⟨_,_,_,r⟩:=UB B (EL zs.1) (EL (L n A).1) zs.2 (L n A).2 G;exact r
   rcases rk A with rfl|rfl|rfl|rfl|rfl|rfl|rfl|rfl
   .refine aA (U<|R<|w<|rx J J ?_<|s J<|N J<|R<|aY (α:=Y) (λf=>⟨[(13,I TE p),(14,j<|Z p),(15,j i),(2,I .q m),(4,.c<|.P 0 0),(7,I .q<|vL g m p i),(26,aM k),(27,j (0:Y)),(11,j (0:Y)),(31,j<|mx k 0),(32,j f),(10,I .q<|iw (g 0) m f<|u 0)],[(0,.box 81 0<|jt g)],11,[]⟩) (λf=>(f:O)<=mx k 0) (λf=>ae (mx k 0)-f) 0 F.1 aH ?_)
    .simp[Pr.h,Pr.an,num]
    intro f t;have t:(f:O)<=mx k 0:=t;refine N J<|U<|y J (λl=>?_)<|λl=>?_
    .have l:(f:O)<mx k 0:=aK l;exact aA<|U<|R<|bT<|rc J J (v f G)<|s J<|aX<|rt J<|aG (f+1) (G:((f+1:Y):O)<=mx k 0) (G:ae (mx k 0)-(f+1)<ae (mx k 0)-f) aH
    .have l:¬(f:O)<mx k 0:=aT l;refine a6<|aX<|rt J<|aG (0+1) T T<|wk ⟨sR J,sR J,sR J,sR J,sR J,sR J,sR J,sR J,sE J ?_,e⟩ ⟨bR J,e⟩;rw[(G:f=ae (mx k 0))];exact a8 (I .q) (C 0).symm
   .refine aA (U<|R<|w<|rx J J ?_<|s J<|N J<|R<|aY (α:=Y) (λf=>⟨[(13,I TE p),(14,j<|Z p),(15,j i),(2,I .q m),(4,.c<|.P 0 0),(7,I .q<|vL g m p i),(26,aM k),(27,j (1:Y)),(11,j (1:Y)),(31,j<|mx k 1),(32,j f),(10,I .q<|iw (g 1) m f<|u 1)],[(0,.box 81 0<|jt g)],11,[]⟩) (λf=>(f:O)<=mx k 1) (λf=>ae (mx k 1)-f) 0 F.1 aH ?_)
    .simp[Pr.h,Pr.an,num]
    intro f t;have t:(f:O)<=mx k 1:=t;refine N J<|U<|y J (λl=>?_)<|λl=>?_
    .have l:(f:O)<mx k 1:=aK l;exact aA<|U<|R<|bT<|rc J J (v f G)<|s J<|aX<|rt J<|aG (f+1) (G:((f+1:Y):O)<=mx k 1) (G:ae (mx k 1)-(f+1)<ae (mx k 1)-f) aH
    .have l:¬(f:O)<mx k 1:=aT l;refine a6<|aX<|rt J<|aG (1+1) T T<|wk ⟨sR J,sR J,sR J,sR J,sR J,sR J,sR J,sR J,sE J ?_,e⟩ ⟨bR J,e⟩;rw[(G:f=ae (mx k 1))];exact a8 (I .q) (C 1).symm
   .refine aA (U<|R<|w<|rx J J ?_<|s J<|N J<|R<|aY (α:=Y) (λf=>⟨[(13,I TE p),(14,j<|Z p),(15,j i),(2,I .q m),(4,.c<|.P 0 0),(7,I .q<|vL g m p i),(26,aM k),(27,j (2:Y)),(11,j (2:Y)),(31,j<|mx k 2),(32,j f),(10,I .q<|iw (g 2) m f<|u 2)],[(0,.box 81 0<|jt g)],11,[]⟩) (λf=>(f:O)<=mx k 2) (λf=>ae (mx k 2)-f) 0 F.1 aH ?_)
    .simp[Pr.h,Pr.an,num]
    intro f t;have t:(f:O)<=mx k 2:=t;refine N J<|U<|y J (λl=>?_)<|λl=>?_
    .have l:(f:O)<mx k 2:=aK l;exact aA<|U<|R<|bT<|rc J J (v f G)<|s J<|aX<|rt J<|aG (f+1) (G:((f+1:Y):O)<=mx k 2) (G:ae (mx k 2)-(f+1)<ae (mx k 2)-f) aH
    .have l:¬(f:O)<mx k 2:=aT l;refine a6<|aX<|rt J<|aG (2+1) T T<|wk ⟨sR J,sR J,sR J,sR J,sR J,sR J,sR J,sR J,sE J ?_,e⟩ ⟨bR J,e⟩;rw[(G:f=ae (mx k 2))];exact a8 (I .q) (C 2).symm
   .refine aA (U<|R<|w<|rx J J ?_<|s J<|N J<|R<|aY (α:=Y) (λf=>⟨[(13,I TE p),(14,j<|Z p),(15,j i),(2,I .q m),(4,.c<|.P 0 0),(7,I .q<|vL g m p i),(26,aM k),(27,j (3:Y)),(11,j (3:Y)),(31,j<|mx k 3),(32,j f),(10,I .q<|iw (g 3) m f<|u 3)],[(0,.box 81 0<|jt g)],11,[]⟩) (λf=>(f:O)<=mx k 3) (λf=>ae (mx k 3)-f) 0 F.1 aH ?_)
    .simp[Pr.h,Pr.an,num]
    intro f t;have t:(f:O)<=mx k 3:=t;refine N J<|U<|y J (λl=>?_)<|λl=>?_
    .have l:(f:O)<mx k 3:=aK l;exact aA<|U<|R<|bT<|rc J J (v f G)<|s J<|aX<|rt J<|aG (f+1) (G:((f+1:Y):O)<=mx k 3) (G:ae (mx k 3)-(f+1)<ae (mx k 3)-f) aH
    .have l:¬(f:O)<mx k 3:=aT l;refine a6<|aX<|rt J<|aG (3+1) T T<|wk ⟨sR J,sR J,sR J,sR J,sR J,sR J,sR J,sR J,sE J ?_,e⟩ ⟨bR J,e⟩;rw[(G:f=ae (mx k 3))];exact a8 (I .q) (C 3).symm
   .refine aA (U<|R<|w<|rx J J ?_<|s J<|N J<|R<|aY (α:=Y) (λf=>⟨[(13,I TE p),(14,j<|Z p),(15,j i),(2,I .q m),(4,.c<|.P 0 0),(7,I .q<|vL g m p i),(26,aM k),(27,j (4:Y)),(11,j (4:Y)),(31,j<|mx k 4),(32,j f),(10,I .q<|iw (g 4) m f<|u 4)],[(0,.box 81 0<|jt g)],11,[]⟩) (λf=>(f:O)<=mx k 4) (λf=>ae (mx k 4)-f) 0 F.1 aH ?_)
    .simp[Pr.h,Pr.an,num]
    intro f t;have t:(f:O)<=mx k 4:=t;refine N J<|U<|y J (λl=>?_)<|λl=>?_
    .have l:(f:O)<mx k 4:=aK l;exact aA<|U<|R<|bT<|rc J J (v f G)<|s J<|aX<|rt J<|aG (f+1) (G:((f+1:Y):O)<=mx k 4) (G:ae (mx k 4)-(f+1)<ae (mx k 4)-f) aH
    .have l:¬(f:O)<mx k 4:=aT l;refine a6<|aX<|rt J<|aG (4+1) T T<|wk ⟨sR J,sR J,sR J,sR J,sR J,sR J,sR J,sR J,sE J ?_,e⟩ ⟨bR J,e⟩;rw[(G:f=ae (mx k 4))];exact a8 (I .q) (C 4).symm
   .refine aA (U<|R<|w<|rx J J ?_<|s J<|N J<|R<|aY (α:=Y) (λf=>⟨[(13,I TE p),(14,j<|Z p),(15,j i),(2,I .q m),(4,.c<|.P 0 0),(7,I .q<|vL g m p i),(26,aM k),(27,j (5:Y)),(11,j (5:Y)),(31,j<|mx k 5),(32,j f),(10,I .q<|iw (g 5) m f<|u 5)],[(0,.box 81 0<|jt g)],11,[]⟩) (λf=>(f:O)<=mx k 5) (λf=>ae (mx k 5)-f) 0 F.1 aH ?_)
    .simp[Pr.h,Pr.an,num]
    intro f t;have t:(f:O)<=mx k 5:=t;refine N J<|U<|y J (λl=>?_)<|λl=>?_
    .have l:(f:O)<mx k 5:=aK l;exact aA<|U<|R<|bT<|rc J J (v f G)<|s J<|aX<|rt J<|aG (f+1) (G:((f+1:Y):O)<=mx k 5) (G:ae (mx k 5)-(f+1)<ae (mx k 5)-f) aH
    .have l:¬(f:O)<mx k 5:=aT l;refine a6<|aX<|rt J<|aG (5+1) T T<|wk ⟨sR J,sR J,sR J,sR J,sR J,sR J,sR J,sR J,sE J ?_,e⟩ ⟨bR J,e⟩;rw[(G:f=ae (mx k 5))];exact a8 (I .q) (C 5).symm
   .refine aA (U<|R<|w<|rx J J ?_<|s J<|N J<|R<|aY (α:=Y) (λf=>⟨[(13,I TE p),(14,j<|Z p),(15,j i),(2,I .q m),(4,.c<|.P 0 0),(7,I .q<|vL g m p i),(26,aM k),(27,j (6:Y)),(11,j (6:Y)),(31,j<|mx k 6),(32,j f),(10,I .q<|iw (g 6) m f<|u 6)],[(0,.box 81 0<|jt g)],11,[]⟩) (λf=>(f:O)<=mx k 6) (λf=>ae (mx k 6)-f) 0 F.1 aH ?_)
    .simp[Pr.h,Pr.an,num]
    intro f t;have t:(f:O)<=mx k 6:=t;refine N J<|U<|y J (λl=>?_)<|λl=>?_
    .have l:(f:O)<mx k 6:=aK l;exact aA<|U<|R<|bT<|rc J J (v f G)<|s J<|aX<|rt J<|aG (f+1) (G:((f+1:Y):O)<=mx k 6) (G:ae (mx k 6)-(f+1)<ae (mx k 6)-f) aH
    .have l:¬(f:O)<mx k 6:=aT l;refine a6<|aX<|rt J<|aG (6+1) T T<|wk ⟨sR J,sR J,sR J,sR J,sR J,sR J,sR J,sR J,sE J ?_,e⟩ ⟨bR J,e⟩;rw[(G:f=ae (mx k 6))];exact a8 (I .q) (C 6).symm
   .refine aA (U<|R<|w<|rx J J ?_<|s J<|N J<|R<|aY (α:=Y) (λf=>⟨[(13,I TE p),(14,j<|Z p),(15,j i),(2,I .q m),(4,.c<|.P 0 0),(7,I .q<|vL g m p i),(26,aM k),(27,j (7:Y)),(11,j (7:Y)),(31,j<|mx k 7),(32,j f),(10,I .q<|iw (g 7) m f<|u 7)],[(0,.box 81 0<|jt g)],11,[]⟩) (λf=>(f:O)<=mx k 7) (λf=>ae (mx k 7)-f) 0 F.1 aH ?_)
    .simp[Pr.h,Pr.an,num]
    intro f t;have t:(f:O)<=mx k 7:=t;refine N J<|U<|y J (λl=>?_)<|λl=>?_
    .have l:(f:O)<mx k 7:=aK l;exact aA<|U<|R<|bT<|rc J J (v f G)<|s J<|aX<|rt J<|aG (f+1) (G:((f+1:Y):O)<=mx k 7) (G:ae (mx k 7)-(f+1)<ae (mx k 7)-f) aH
    .have l:¬(f:O)<mx k 7:=aT l;refine a6<|aX<|rt J<|aG (7+1) T T<|wk ⟨sR J,sR J,sR J,sR J,sR J,sR J,sR J,sR J,sE J ?_,e⟩ ⟨bR J,e⟩;rw[(G:f=ae (mx k 7))];exact a8 (I .q) (C 7).symm
  .have A:n=8:=by have A:¬(n:O)<8:=aT A;omega
   subst A;refine a6<|dM S<|wk ⟨sR J,sR J,sR J,sR J,sR J,sR J,sE J ?_,e⟩ ⟨bR J,e⟩;rw[V8]
 .have h:i=Z p:=by have h:¬(i:O)<(Z p:O):=aT h;omega
  subst h;exact a6<|dM b aH
def ars c:mL c=c0 c:=by show eV [c]=eV [c*1];rw[tq]
def art{m a c}{t u}(f:gD m)(g:Ez m t a)(i:Ez m u c)(p:t<=1000000)(l:u<=1000000):al z 20 [I .q a,I .q c,I .q m] (I .q<|fm a c m):=by have h:=g.1.aq7 i.1 (k:=100000) T T G G T;have n:=g.1.mul i.1 T;have E:=n.RZ f.pz f.ne (d:=8) (s:=1000000) (by have:=n.len;omega) T T G;have l:=RX (s:=1000000) T T (DV a c) f.ne E;refine aR Tryz.func20 ?_;exact N J<|w<|rc J J h<|rc J J l<|s J<|cx J
def aru{m}{c}(a:gD m)(g:∃i:O,c=(i:D)/\aC i<=20000):al z 66 [I .q (mL c),I .q m] (I .q<|c0 c):=by have f:=BH a g;have E:=f.1.RZ a.pz a.ne (d:=8) (s:=1000000) (by have:=f.1.len;omega) T T T;have:=RX (s:=1000000) T T f.1.can a.ne E;rw[ae6 a g]at this;rw[ars];exact this
def arv{m}(L:gD m){g:Y->V D}(M:xp g m){p}(hp:∀x∈p,TO 20000 6 x)(lp:Z p<=40):al z 60 [I TE p,.a<|jt g,I .q m] (I .q<|vL g m p<|Z p):=by
 refine aR Tryz.func60 ?_;refine N J<|w<|rl .q [] J J (s J ?_);refine jk ⟨[(7,I .q<|vL g m p<|Z p)],[],20,[]⟩ ?_<|λo=>?_
 .exact N J<|cx J
 refine N J<|R<|aY (α:=Y) (λi=>⟨[(0,I TE p),(2,I .q m),(4,.c<|.P 0 0),(7,I .q<|vL g m p i),(8,j i)],[(0,.box 81 0<|jt g)],3,[]⟩) (λi=>i<=Z p) (λi=>Z p-i) 0 (be _) aH ?_;intro i hi;have v:ae ((i:O))=i:=bW i;refine U<|N J<|y J (λh=>?_)<|λh=>?_
 .have h:i<Z p:=by have h:(i:O)<(Z p:O):=aK h;omega
  have b:=zf (d:=TE.aD) hp h;have FQ:al z 44 [aQ (E p (ae<|(i:O)) TE.aD).1] (I .q<|mL (E p i TE.aD).1):=by rw[v];exact RQ _
  have GB:=aru L b.1;have zv:=xq L M hp i G;have zt:=UL L M b;have Q:al z 36 [I .q (vL g m p i),I .q<|xo g m<|E p i TE.aD] (I .q<|vL g m p<|i+1):=zv.1.DJ zt.1 (k:=10000) T T G T T;obtain⟨n,u⟩:∃n,n=(E p i TE.aD).2:=⟨_,J⟩;obtain⟨S,K⟩:∃S,S=c0 (E p i TE.aD).1:=⟨_,J⟩;have W:bM 6 n:=by rw[u];exact b.2
  have zc:Ez m 15 S:=by rw[K];exact BH L b.1
  obtain⟨A,V0,F,V8,Vz⟩:∃A:Y->V D,A 0=S/\(∀r,A (r+1)=iw (g r) m (ae<|mx n r) (A r))/\A 8=xo g m (E p i TE.aD)/\∀r,r<=8->Ez m (15+360*r) (A r):=⟨λr=>vT g m n r S,J,λr=>rfl,by rw[u,K];rfl,λr hj=>Oi L M W zc T r hj⟩;refine aA<|U<|R<|w<|rc J J FQ (rc J J GB<|s J ?_) (hp:=aF);refine jk ⟨[(0,I TE p),(2,I .q m),(4,.c<|.P 0 0),(7,I .q<|vL g m p i),(8,j i),(9,I .q<|xo g m<|E p i TE.aD)],[(0,.box 81 0<|jt g)],16,[]⟩ ?_<|λX=>?_
  .refine bT<|rc J J Q<|s J<|aX<|rt J<|aG (i+1) h Oc aH
  refine N J<|R<|aY (α:=Y) (λr=>⟨[(0,I TE p),(2,I .q m),(4,.c<|.P 0 0),(7,I .q<|vL g m p i),(8,j i),(10,j r),(9,I .q<|A r)],[(0,.box 81 0<|jt g)],9,[]⟩) (λr=>r<=8) (λr=>8-r) 0 T (wk ⟨sR J,sR J,sR J,sR J,sR J,sR J,sE J ?_,e⟩ ⟨bR J,e⟩) ?_
  .rw[V0,K]
  intro r hj;refine U<|N J<|y J (λC=>?_)<|λC=>?_
  .have C:r<8:=by have C:(r:O)<8:=aK C;omega
   have H:=W r C;have zj:=Vz r G;have B:∀f,f<=6->al z 20 [I .q (iw (g r) m f<|A r),I .q<|g r,I .q m] (I .q<|iw (g r) m (f+1)<|A r):=λf t=>by have zs:=Oh L (M r C) zj G f G;exact art L zs (M r C) G G
   rcases rk C with rfl|rfl|rfl|rfl|rfl|rfl|rfl|rfl
   .refine aA<|U<|R<|N J<|R<|aY (α:=Y) (λf=>⟨[(0,I TE p),(2,I .q m),(4,.c<|.P 0 0),(7,I .q<|vL g m p i),(8,j i),(10,j (0:Y)),(11,j f),(9,I .q<|iw (g 0) m f<|A 0)],[(0,.box 81 0<|jt g)],11,[]⟩) (λf=>(f:O)<=mx n 0) (λf=>ae (mx n 0)-f) 0 H.1 aH ?_;intro f t;have t:(f:O)<=mx n 0:=t;refine U (N J<|y J (λl=>?_)<|λl=>?_)
    .have l:(f:O)<mx (E p (ae<|(i:O)) TE.aD).2 0:=aK l;rw[v,<-u]at l;exact aA<|U<|R<|bT<|rc J J (B f G)<|s J<|aX<|rt J<|aG (f+1) (G:((f+1:Y):O)<=mx n 0) (G:ae (mx n 0)-(f+1)<ae (mx n 0)-f) aH
    .have l:¬(f:O)<mx (E p (ae<|(i:O)) TE.aD).2 0:=aT l;rw[v,<-u]at l;refine a6<|aX<|rt J<|aG (0+1) T T<|wk ⟨sR J,sR J,sR J,sR J,sR J,sR J,sE J ?_,e⟩ ⟨bR J,e⟩;rw[(G:f=ae (mx n 0))];exact a8 (I .q) (F 0).symm
   .refine aA<|U<|R<|N J<|R<|aY (α:=Y) (λf=>⟨[(0,I TE p),(2,I .q m),(4,.c<|.P 0 0),(7,I .q<|vL g m p i),(8,j i),(10,j (1:Y)),(11,j f),(9,I .q<|iw (g 1) m f<|A 1)],[(0,.box 81 0<|jt g)],11,[]⟩) (λf=>(f:O)<=mx n 1) (λf=>ae (mx n 1)-f) 0 H.1 aH ?_;intro f t;have t:(f:O)<=mx n 1:=t;refine U (N J<|y J (λl=>?_)<|λl=>?_)
    .have l:(f:O)<mx (E p (ae<|(i:O)) TE.aD).2 1:=aK l;rw[v,<-u]at l;exact aA<|U<|R<|bT<|rc J J (B f G)<|s J<|aX<|rt J<|aG (f+1) (G:((f+1:Y):O)<=mx n 1) (G:ae (mx n 1)-(f+1)<ae (mx n 1)-f) aH
    .have l:¬(f:O)<mx (E p (ae<|(i:O)) TE.aD).2 1:=aT l;rw[v,<-u]at l;refine a6<|aX<|rt J<|aG (1+1) T T<|wk ⟨sR J,sR J,sR J,sR J,sR J,sR J,sE J ?_,e⟩ ⟨bR J,e⟩;rw[(G:f=ae (mx n 1))];exact a8 (I .q) (F 1).symm
   .refine aA<|U<|R<|N J<|R<|aY (α:=Y) (λf=>⟨[(0,I TE p),(2,I .q m),(4,.c<|.P 0 0),(7,I .q<|vL g m p i),(8,j i),(10,j (2:Y)),(11,j f),(9,I .q<|iw (g 2) m f<|A 2)],[(0,.box 81 0<|jt g)],11,[]⟩) (λf=>(f:O)<=mx n 2) (λf=>ae (mx n 2)-f) 0 H.1 aH ?_;intro f t;have t:(f:O)<=mx n 2:=t;refine U (N J<|y J (λl=>?_)<|λl=>?_)
    .have l:(f:O)<mx (E p (ae<|(i:O)) TE.aD).2 2:=aK l;rw[v,<-u]at l;exact aA<|U<|R<|bT<|rc J J (B f G)<|s J<|aX<|rt J<|aG (f+1) (G:((f+1:Y):O)<=mx n 2) (G:ae (mx n 2)-(f+1)<ae (mx n 2)-f) aH
    .have l:¬(f:O)<mx (E p (ae<|(i:O)) TE.aD).2 2:=aT l;rw[v,<-u]at l;refine a6<|aX<|rt J<|aG (2+1) T T<|wk ⟨sR J,sR J,sR J,sR J,sR J,sR J,sE J ?_,e⟩ ⟨bR J,e⟩;rw[(G:f=ae (mx n 2))];exact a8 (I .q) (F 2).symm
   .refine aA<|U<|R<|N J<|R<|aY (α:=Y) (λf=>⟨[(0,I TE p),(2,I .q m),(4,.c<|.P 0 0),(7,I .q<|vL g m p i),(8,j i),(10,j (3:Y)),(11,j f),(9,I .q<|iw (g 3) m f<|A 3)],[(0,.box 81 0<|jt g)],11,[]⟩) (λf=>(f:O)<=mx n 3) (λf=>ae (mx n 3)-f) 0 H.1 aH ?_;intro f t;have t:(f:O)<=mx n 3:=t;refine U (N J<|y J (λl=>?_)<|λl=>?_)
    .have l:(f:O)<mx (E p (ae<|(i:O)) TE.aD).2 3:=aK l;rw[v,<-u]at l;exact aA<|U<|R<|bT<|rc J J (B f G)<|s J<|aX<|rt J<|aG (f+1) (G:((f+1:Y):O)<=mx n 3) (G:ae (mx n 3)-(f+1)<ae (mx n 3)-f) aH
    .have l:¬(f:O)<mx (E p (ae<|(i:O)) TE.aD).2 3:=aT l;rw[v,<-u]at l;refine a6<|aX<|rt J<|aG (3+1) T T<|wk ⟨sR J,sR J,sR J,sR J,sR J,sR J,sE J ?_,e⟩ ⟨bR J,e⟩;rw[(G:f=ae (mx n 3))];exact a8 (I .q) (F 3).symm
   .refine aA<|U<|R<|N J<|R<|aY (α:=Y) (λf=>⟨[(0,I TE p),(2,I .q m),(4,.c<|.P 0 0),(7,I .q<|vL g m p i),(8,j i),(10,j (4:Y)),(11,j f),(9,I .q<|iw (g 4) m f<|A 4)],[(0,.box 81 0<|jt g)],11,[]⟩) (λf=>(f:O)<=mx n 4) (λf=>ae (mx n 4)-f) 0 H.1 aH ?_;intro f t;have t:(f:O)<=mx n 4:=t;refine U (N J<|y J (λl=>?_)<|λl=>?_)
    .have l:(f:O)<mx (E p (ae<|(i:O)) TE.aD).2 4:=aK l;rw[v,<-u]at l;exact aA<|U<|R<|bT<|rc J J (B f G)<|s J<|aX<|rt J<|aG (f+1) (G:((f+1:Y):O)<=mx n 4) (G:ae (mx n 4)-(f+1)<ae (mx n 4)-f) aH
    .have l:¬(f:O)<mx (E p (ae<|(i:O)) TE.aD).2 4:=aT l;rw[v,<-u]at l;refine a6<|aX<|rt J<|aG (4+1) T T<|wk ⟨sR J,sR J,sR J,sR J,sR J,sR J,sE J ?_,e⟩ ⟨bR J,e⟩;rw[(G:f=ae (mx n 4))];exact a8 (I .q) (F 4).symm
   .refine aA<|U<|R<|N J<|R<|aY (α:=Y) (λf=>⟨[(0,I TE p),(2,I .q m),(4,.c<|.P 0 0),(7,I .q<|vL g m p i),(8,j i),(10,j (5:Y)),(11,j f),(9,I .q<|iw (g 5) m f<|A 5)],[(0,.box 81 0<|jt g)],11,[]⟩) (λf=>(f:O)<=mx n 5) (λf=>ae (mx n 5)-f) 0 H.1 aH ?_;intro f t;have t:(f:O)<=mx n 5:=t;refine U (N J<|y J (λl=>?_)<|λl=>?_)
    .have l:(f:O)<mx (E p (ae<|(i:O)) TE.aD).2 5:=aK l;rw[v,<-u]at l;exact aA<|U<|R<|bT<|rc J J (B f G)<|s J<|aX<|rt J<|aG (f+1) (G:((f+1:Y):O)<=mx n 5) (G:ae (mx n 5)-(f+1)<ae (mx n 5)-f) aH
    .have l:¬(f:O)<mx (E p (ae<|(i:O)) TE.aD).2 5:=aT l;rw[v,<-u]at l;refine a6<|aX<|rt J<|aG (5+1) T T<|wk ⟨sR J,sR J,sR J,sR J,sR J,sR J,sE J ?_,e⟩ ⟨bR J,e⟩;rw[(G:f=ae (mx n 5))];exact a8 (I .q) (F 5).symm
   .refine aA<|U<|R<|N J<|R<|aY (α:=Y) (λf=>⟨[(0,I TE p),(2,I .q m),(4,.c<|.P 0 0),(7,I .q<|vL g m p i),(8,j i),(10,j (6:Y)),(11,j f),(9,I .q<|iw (g 6) m f<|A 6)],[(0,.box 81 0<|jt g)],11,[]⟩) (λf=>(f:O)<=mx n 6) (λf=>ae (mx n 6)-f) 0 H.1 aH ?_;intro f t;have t:(f:O)<=mx n 6:=t;refine U (N J<|y J (λl=>?_)<|λl=>?_)
    .have l:(f:O)<mx (E p (ae<|(i:O)) TE.aD).2 6:=aK l;rw[v,<-u]at l;exact aA<|U<|R<|bT<|rc J J (B f G)<|s J<|aX<|rt J<|aG (f+1) (G:((f+1:Y):O)<=mx n 6) (G:ae (mx n 6)-(f+1)<ae (mx n 6)-f) aH
    .have l:¬(f:O)<mx (E p (ae<|(i:O)) TE.aD).2 6:=aT l;rw[v,<-u]at l;refine a6<|aX<|rt J<|aG (6+1) T T<|wk ⟨sR J,sR J,sR J,sR J,sR J,sR J,sE J ?_,e⟩ ⟨bR J,e⟩;rw[(G:f=ae (mx n 6))];exact a8 (I .q) (F 6).symm
   .refine aA<|U<|R<|N J<|R<|aY (α:=Y) (λf=>⟨[(0,I TE p),(2,I .q m),(4,.c<|.P 0 0),(7,I .q<|vL g m p i),(8,j i),(10,j (7:Y)),(11,j f),(9,I .q<|iw (g 7) m f<|A 7)],[(0,.box 81 0<|jt g)],11,[]⟩) (λf=>(f:O)<=mx n 7) (λf=>ae (mx n 7)-f) 0 H.1 aH ?_;intro f t;have t:(f:O)<=mx n 7:=t;refine U (N J<|y J (λl=>?_)<|λl=>?_)
    .have l:(f:O)<mx (E p (ae<|(i:O)) TE.aD).2 7:=aK l;rw[v,<-u]at l;exact aA<|U<|R<|bT<|rc J J (B f G)<|s J<|aX<|rt J<|aG (f+1) (G:((f+1:Y):O)<=mx n 7) (G:ae (mx n 7)-(f+1)<ae (mx n 7)-f) aH
    .have l:¬(f:O)<mx (E p (ae<|(i:O)) TE.aD).2 7:=aT l;rw[v,<-u]at l;refine a6<|aX<|rt J<|aG (7+1) T T<|wk ⟨sR J,sR J,sR J,sR J,sR J,sR J,sE J ?_,e⟩ ⟨bR J,e⟩;rw[(G:f=ae (mx n 7))];exact a8 (I .q) (F 7).symm
  .have C:r=8:=by have C:¬(r:O)<8:=aT C;omega
   subst C;refine a6<|dM X<|wk ⟨sR J,sR J,sR J,sR J,sR J,sE J ?_,e⟩ ⟨bR J,e⟩;rw[V8]
 .have h:i=Z p:=by have h:¬(i:O)<(Z p:O):=aT h;omega
  subst h;exact a6<|dM o aH
def mR(g:Y->V D)(c:MO.den):Y->Rx
 |0=>1
 |a+1=>pk (lx<|g a) (ae<|mx c a)*mR g c a
def tR(g:Y->V D)(x:TE.den):Rx:=K x.1*mR g x.2 8
def eR(g:Y->V D):V TE.den->Rx
 |[]=>0
 |x::p=>tR g x+eR g p
def ae7{g m t:V D}(c:gD m):∀n,lx m∣lx (iw g m n t)-pk (lx g) n*lx t
 |0=>by show lx m∣lx t-1*lx t;rw[Rx.one_mul];exact mJ _ _
 |n+1=>by have d:=UA (a:=iw g m n t) (b:=g) c.can c.ne;have f:=pH (ae7 (g:=g) (t:=t) c n)<|mJ (lx m)<|lx g;have i:=nR d f;show lx m∣lx (fm (iw g m n t) g m)-(pk (lx g) n*lx g)*lx t;rw[(fc:(pk (lx g) n*lx g)*lx t=pk (lx g) n*lx t*lx g)];exact i
def ae8{m t:V D}{g:Y->V D}{e:MO.den}(c:gD m):∀a,lx m∣lx (vT g m e a t)-mR g e a*lx t
 |0=>by show lx m∣lx t-1*lx t;rw[Rx.one_mul];exact mJ _ _
 |a+1=>by have f:=ae7 (g:=g a) (t:=vT g m e a t) c<|ae<|mx e a;have i:=pH (mJ (lx m)<|pk (lx<|g a)<|ae<|mx e a)<|ae8 (t:=t) (g:=g) (e:=e) c a;have d:=nR f i;rw[<-Rx.mul_assoc]at d;exact d
def arw c:lx (c0 c)=K c:=by rw[HE,aq0,Rx.mul_one]
def arx{m}{g:Y->V D}{x:TE.den}(a:gD m):lx m∣lx (xo g m x)-tR g x:=by have:=ae8 (t:=c0 x.1) (g:=g) (e:=x.2) a 8;rw[arw,Rx.mul_comm]at this;exact this
def ae9(g:Y->V D)(x:TE.den):∀p,eR g (p++[x])=eR g p+tR g x
 |[]=>by show tR g x+0=0+tR g x;rw[Rx.add_zero,Rx.zero_add]
 |a::p=>by show tR g a+eR g (p++[x])=tR g a+eR g p+tR g x;rw[ae9 g x p,Rx.add_assoc]
def ae'{m:V D}{g:Y->V D}{p:V TE.den}(a:gD m):∀n,n<=Z p->lx m∣lx (vL g m p n)-eR g (List.take n p)
 |0,_=>by show lx m∣lx []-0;rw[pJ,Rx.sub_zero];exact dvd_zero _
 |n+1,d=>by
  show lx m∣lx (jz _ _)-_;rw[HD,Jw G,ae9];have c:E p n TE.aD=p[n]:=by rw[aV,cH G];rfl
  rw[c];exact LZ (ae' a n G)<|arx a
def I3{m}{g:Y->V D}{p}(a:gD m):lx m∣lx (vL g m p<|Z p)-eR g p:=by have:=ae' (g:=g) (p:=p) a (Z p)<|a7 _;rwa[fv]at this
def EM(g:Y->V D):∀{n:Y}{p q:V TE.den},Z p+Z q<=n->eR g (iJ n p q)=eR g p+eR g q
 |0,p,q,a=>by have d:=fB (G:Z p=0);have f:=fB (G:Z q=0);subst d f;exact(Rx.add_zero (0:Rx)).symm
 |n+1,[],[],_=>(Rx.add_zero (0:Rx)).symm
 |n+1,x::p,[],a=>by rw[UE];show tR g x+eR g (iJ n p [])=tR g x+eR g p+0;rw[EM g (by simp only[eB,m7]at*;omega),Rx.add_zero];show tR g x+(eR g p+0)=_;rw[Rx.add_zero]
 |n+1,[],y::q,a=>by rw[UF];show tR g y+eR g (iJ n [] q)=0+(tR g y+eR g q);rw[EM g (by simp only[eB,m7]at*;omega),Rx.zero_add];show tR g y+(0+eR g q)=_;rw[Rx.zero_add]
 |n+1,x::p,y::q,a=>by
  rw[BE];simp only[eB]at a;split
  .show tR g x+eR g (iJ n p<|y::q)=tR g x+eR g p+eR g (y::q);rw[EM g (by simp only[eB];omega),Rx.add_assoc]
  .split
   .show tR g y+eR g (iJ n (x::p) q)=eR g (x::p)+(tR g y+eR g q);rw[EM g (by simp only[eB];omega)];ac_rfl
   .rename_i m r;have e:x.2=y.2:=arf G;have i:tR g x+tR g y=K (x.1+y.1)*mR g x.2 8:=by unfold tR;rw[<-e,Az,Rx.add_mul]
    have k:=EM g (n:=n) (p:=p) (q:=q) G;have c:eR g (x::p)+eR g (y::q)=(tR g x+tR g y)+(eR g p+eR g q):=by show(tR g x+eR g p)+(tR g y+eR g q)=_;ac_rfl
    rw[c,i,<-k];split
    .rfl
    .rename_i l;have:x.1+y.1=0:=Classical.not_not.1 l;rw[this,nP,Rx.zero_mul,Rx.zero_add]
def afa(g:Y->V D) p a:eR g (lC p a)=eR g p+eR g a:=EM g<|a7 _
def afb{g:Y->V D}{k l:O}{x c:MO.den}(d:bM k x)(f:bM l c):∀a,a<=8->mR g (vf x c) a=mR g x a*mR g c a
 |0,_=>(Rx.one_mul 1).symm
 |a+1,i=>by have m:=d a G;have n:=f a G;show pk (lx<|g a) (ae<|mx (vf x c) a)*mR g (vf x c) a=(pk (lx<|g a) (ae<|mx x a)*mR g x a)*(pk (lx<|g a) (ae<|mx c a)*mR g c a);rw[afb d f a G,aeV G,(G:ae (mx x a+mx c a)=ae (mx x a)+ae (mx c a)),wK];ac_rfl
def afc{g:Y->V D}{k l:O}{c:D}{m:MO.den}(a:bM k m):∀{p:V TE.den},(∀x∈p,bM l x.2)->eR g (p.map<|xm c m)=K c*mR g m 8*eR g p
 |[],_=>(Rx.mul_zero _).symm
 |x::p,d=>by show tR g (xm c m x)+eR g (p.map<|xm c m)=K c*mR g m 8*(tR g x+eR g p);rw[afc a (λf i=>d f<|jT _ i),Rx.mul_add];congr 1;show K (c*x.1)*mR g (vf m x.2) 8=K c*mR g m 8*(K x.1*mR g x.2 8);rw[afb a (d x ay) 8 (a7 _),eX];ac_rfl
def ary{g:Y->V D}{k l}{c}{m:MO.den}(a:bM k m){p}(d:∀x∈p,bM l x.2):eR g (lB c m p)=K c*mR g m 8*eR g p:=by
 unfold lB;split
 .rename_i h;rw[h,nP,Rx.zero_mul,Rx.zero_mul];rfl
 .exact afc a d
def afd{g:Y->V D}{k l:O}{c:V TE.den}(d:∀x∈c,bM l x.2):∀{p a:V TE.den},(∀x∈p,bM k x.2)->eR g (nB a p c)=eR g a+eR g p*eR g c
 |[],a,_=>by show eR g a=eR g a+0*eR g c;rw[Rx.zero_mul,Rx.add_zero]
 |x::p,a,f=>by rw[nB,afd d<|λi m=>f i<|jT _ m,afa,ary (f x ay) d];show eR g a+K x.1*mR g x.2 8*eR g c+eR g p*eR g c=eR g a+(tR g x+eR g p)*eR g c;rw[Rx.add_mul,Rx.add_assoc];rfl
def I4{m}{g:Y->V D}{p}{a}(c:gD m)(d:xp g m)(f:∀x∈p,TO 20000 6 x)(i:bS a)(k:Z a<Z m)(l:lx m∣eR g p-lx a):vL g m p (Z p)=a:=by have z:=xq c d f (Z p)<|a7 _;exact Zw z.1.can i c.can c.ne z.2 k<|nR (I3 c) l
end Go.El
namespace Go.El
open Go Go.Proofs Go.RowKit
def Oj(P:bZ):Y->V Field->Bool
 |_,[]=>true
 |off,f::r=>decide (f.offset=off)&&Oj P (off+P.cellsOf f.type) r
def xr(P:bZ):V dI->Y
 |[]=>0
 |t::a=>P.cellsOf t+xr P a
def vg(P:bZ):Y->ET->V dI->Bool
 |0,_,_=>ah
 |_+1,_,[]=>ah
 |f+1,a,[t]=>(match P.underlying t with
  |some (.int k)=>(match a with
   | .int g=>decide<|g=k
   |_=>ah)
  |some .bool=>(match a with
   | .bool=>true
   |_=>ah)
  |some (.slice c)=>(match a with
   | .sl d=>vg P f d [c]&&decide (P.cellsOf c=d.n)&&decide (d.n<=P.bytesOf c)
   |_=>ah)
  |some (.struct fs)=>vg P f a (fs.toList.map (·.type))&&Oj P 0 fs.toList&&decide (xr P (fs.toList.map (·.type))=P.cellsOf t)
  |some (.array n c)=>vg P f a (bp n c)&&decide (xr P (bp n c)=P.cellsOf t)
  |_=>ah)
 |f+1,a,t::i::l=>(match a with
  | .pr A B=>vg P f A [t]&&vg P f B (i::l)
  |_=>ah)
def tQ:(a:ET)->a.den->Prop
 | .int k,n=>(Lit.int k n).wf=true
 | .bool,_=>True
 | .z,_=>False
 | .q,_=>False
 | .sl a,xs=>∀x∈xs,tQ a x
 | .pr A B,x=>tQ A x.1/\tQ B x.2
def Ok{d k:Type}{f:d->Option k}:∀{l:V d}{r:V k},l.mapM f=ad r->Z r=Z l/\∀(i:Y)(x:d),l[i]? =ad x->∃m,r[i]? =ad m/\f x=ad m
 |[],r,c=>by simp only[afe]at c;cases c;exact⟨J,λi x hx=>by simp at hx⟩
 |a::l,r,c=>by
  rw[Fp]at c;cases g:f a with
  |none=>rw[g]at c;cases c
  |some n=>
   rw[g]at c
   cases hl:l.mapM f with
   |none=>rw[hl]at c;cases c
   |some p=>
    rw[hl]at c
    cases c
    let ⟨h1,h2⟩:=Ok hl
    refine⟨yw,λi x hx=>?_⟩
    cases i with
    |zero=>simp only[mn,ar]at hx;subst hx;exact⟨n,J,g⟩
    |succ i=>simpa using h2 i x CZ
section
variable{H:Type}{enc:dI×a4->H}{P:bZ}{w:World}{base:Y}{spare:Y->Bool}{held:Bool}
def Ol(enc:dI×a4->H)(P:bZ)(w:World)(base:Y)(spare:Y->Bool)(held:Bool):V dI->V a4->V (zi H)->Prop
 |[],cs,ds=>cs=[]/\ds=[]
 |t::g,cs,ds=>∃c r d f,cs=c++r/\ds=d::f/\(∃a ps,lD enc P w base spare held a t c=ad (d,ps))/\Ol enc P w base spare held g r f
def aff{a:Y}{d:V a4}:∀{g:V Field}{off:Y}{xs:V (zi H×V MemPlace)},Oj P off g=true->Z d=off+xr P (g.map (·.type))->
  (g.mapM λf=>lD enc P w base spare held a f.type<|(az f.offset d).take<|P.cellsOf f.type)=ad xs->Ol enc P w base spare held (g.map (·.type)) (az off d) (xs.map (·.1))
 |[],off,xs,_,hl,c=>by simp only[afe]at c;cases c;simp only[IL,xr]at hl⊢;exact⟨qp G,J⟩
 |f::g,off,xs,k,hl,c=>by
  simp only[Oj,cr,decide_eq_true_eq]at k;rw[Fp]at c;simp only[hJ,xr]at hl;cases i:lD enc P w base spare held a f.type ((az f.offset d).take<|P.cellsOf f.type)with
  |none=>rw[i]at c;cases c
  |some l=>
   rw[i]at c
   cases hm:(g.mapM λf=>lD enc P w base spare held a f.type<|(az f.offset d).take<|P.cellsOf f.type)with
   |none=>rw[hm]at c;cases c
   |some m=>
    rw[hm]at c
    cases c
    have n:=aff (off:=off+P.cellsOf f.type) k.2 G hm
    rw[k.1]at i
    refine⟨(az off d).take<|P.cellsOf f.type,az (off+P.cellsOf f.type) d,l.1,m.map (·.1),?_,J,⟨a,l.2,i⟩,n⟩
    rw[<-qu,ry]
def afg{c n:Y}{a:dI}{f:V a4}:∀{m k:Y}{xs:V (zi H×V MemPlace)},k+m=n->Z f=n*P.cellsOf a->
  ((List.range' k m).mapM λi=>lD enc P w base spare held c a<|(az (i*P.cellsOf a) f).take<|P.cellsOf a)=ad xs->Ol enc P w base spare held (bp m a) (az (k*P.cellsOf a) f) (xs.map (·.1))
 |0,k,xs,l,hl,d=>by simp only[List.range'_zero,afe]at d;cases d;exact⟨qp (by rw[hl,<-l];exact a7 _),J⟩
 |m+1,k,xs,l,hl,d=>by
  rw[Jg,Fp]at d;cases g:lD enc P w base spare held c a ((az (k*P.cellsOf a) f).take<|P.cellsOf a)with
  |none=>rw[g]at d;cases d
  |some p=>
   rw[g]at d
   cases hm:((List.range' (k+1) m).mapM λi=>lD enc P w base spare held c a<|(az (i*P.cellsOf a) f).take<|P.cellsOf a)with
   |none=>rw[hm]at d;cases d
   |some r=>
    rw[hm]at d
    cases d
    have t:=afg (k:=k+1) G hl hm
    refine⟨(az (k*P.cellsOf a) f).take<|P.cellsOf a,az ((k+1)*P.cellsOf a) f,p.1,r.map (·.1),?_,J,⟨c,p.2,g⟩,t⟩
    rw[NZ,<-qu,ry]
def afh{c:dI}:∀{n:Y}{a:V (zi H)},Z a=n->BI P (bp n c) a=Om P c a
 |0,[],_=>rfl
 |n+1,d::a,h=>by simp only[xx,BI,Om];rw[afh (n:=n) dH]
def afi{f:dI}{d:zi H}:∀{a:V (zi H)},d∈a->∀n∈d.weights P f,n∈Om P f a
 |x::a,c,n,g=>by
  simp only[Om,bg];rcases bY.1 c with rfl|c
  .exact .inl g
  .exact .inr<|afi c n g
def arz{c a}i d:UM (UM ⟨c,a,none⟩ i) d=⟨c,a+i+d,none⟩:=by unfold UM;split<;>split<;>simp_all
def afj(a:dI):∀n,xr P (bp n a)=n*P.cellsOf a
 |0=>by simp[xr]
 |n+1=>by rw[xx,xr,afj a n,NZ,J2]
section
variable{t:dI}{c:V a4}{fuel:Y}{d:zi H}{ps:V MemPlace}
def trod_bool(f:P.underlying t=ad .bool)(a:lD enc P w base spare held (fuel+1) t c=ad (d,ps)):∃g,c=[.bool g]:=by
 unfold lD at a;rw[f]at a;rcases c with _|⟨v,_|⟨v2,r⟩⟩
 .simp at a
 .cases v<;>first| (simp at a;done)|exact⟨_,rfl⟩
 .cases v<;>simp at a
def trod_int{k}(f:P.underlying t=ad (.int k))(a:lD enc P w base spare held (fuel+1) t c=ad (d,ps)):∃n,c=[.int k n]/\(Lit.int k n).wf=true:=by
 unfold lD at a;rw[f]at a;rcases c with _|⟨v,_|⟨v2,r⟩⟩
 .simp at a
 .cases v with
  |int g n=>
   simp only at a
   split at a
   .rename_i e;exact⟨n,by rw[e.1],e.2⟩
   .cases a
  |_=>simp at a
 .cases v<;>simp at a
def trod_slice{m}(p:P.underlying t=ad (.slice m))(g:lD enc P w base spare held (fuel+1) t c=ad (d,ps)):c=[.slice none 0 0]\/
  ∃a k l f rest,c=[.slice (ad a) k l]/\k<=l/\d= .slice (f.map (·.1)) rest/\(cc k).mapM (λi=>(w.cells? base (a.add<|i*P.cellsOf m)<|P.cellsOf m).bind<|lD enc P w base spare held fuel m)=ad f:=by
 unfold lD at g
 rw[p]at g
 rcases c with _|⟨v,_|⟨v2,r⟩⟩
 .simp at g
 .cases v with
  |slice a k l=>
   cases a with
   |none=>
    cases k with
    |zero=>cases l with
     |zero=>exact .inl J
     |succ _=>simp at g
    |succ _=>simp at g
   |some a=>
    simp only at g
    split at g
    .rename_i n;refine .inr ⟨a,k,l,?_⟩;cases hm:(cc k).mapM (λi=>(w.cells? base (a.add<|i*P.cellsOf m)<|P.cellsOf m).bind<|lD enc P w base spare held fuel m)with
     |none=>rw[hm]at g;cases g
     |some f=>
      rw[hm]at g
      simp only[Option.bind_some,cL,bK]at g
      obtain⟨rest,_,rfl,_⟩:=g
      exact⟨f,_,J,n.2.1,J,J⟩
    .cases g
  |_=>simp at g
 .cases v<;>simp at g
def trod_struct{g}(i:P.underlying t=ad (.struct g))(a:lD enc P w base spare held (fuel+1) t c=ad (d,ps)):Z c=P.cellsOf t/\∃xs,(g.toList.mapM λf=>lD enc P w base spare held fuel f.type<|(az f.offset c).take<|P.cellsOf f.type)=ad xs/\d= .agg (xs.map (·.1)):=by
 unfold lD at a;rw[i]at a;simp only at a;split at a
 .rename_i k;simp only[cL,bK]at a;obtain⟨xs,l,m,_⟩:=a;exact⟨k,xs,l,m.symm⟩
 .cases a
def trod_array{n}{f}(g:P.underlying t=ad (.array n f))(a:lD enc P w base spare held (fuel+1) t c=ad (d,ps)):Z c=P.cellsOf t/\∃xs,((cc n).mapM λi=>lD enc P w base spare held fuel f<|(az (i*P.cellsOf f) c).take<|P.cellsOf f)=ad xs/\d= .agg (xs.map (·.1)):=by
 unfold lD at a;rw[g]at a;simp only at a;split at a
 .rename_i k;simp only[cL,bK]at a;obtain⟨xs,l,m,_⟩:=a;exact⟨k,xs,l,m.symm⟩
 .cases a
end
def arA{a:Addr}{n}{c}(f:w.cells? base a n=ad c):Z c=n/\∀d(g:d<Z c),w.cell? (a.add d)=ad c[d]:=by
 unfold World.cells? at f;split at f
 .let ⟨i,h2⟩:=Ok f;rw[wG]at i;refine⟨i,λd g=>?_⟩;let ⟨y,k,l⟩:=h2 d d<|kS G;rw[cH g]at k;cases k;exact l
 .cases f
def afk{c:Type}{Q:Y->c->Prop}:∀n,(∀i,i<n->∃x,Q i x)->∃l:V c,Z l=n/\∀i(a:i<Z l),Q i l[i]
 |0,_=>⟨[],J,λi a=>absurd a<|CF i⟩
 |n+1,a=>by
  let ⟨l,h1,h2⟩:=afk n<|λi d=>a i G;let ⟨x,hx⟩:=a n<|dL n;refine⟨l++[x],yw,λi d=>?_⟩;rw[List.getElem_append];split
  .rename_i f;exact h2 i f
  .rename_i f;have:i=n:=by simp at d;omega
   subst this;simpa using hx
def EN:∀(f:Y)(F:ET)(ts:V dI),vg P f F ts=true->∀(l:V a4)(ds:V (zi H)),Ol enc P w base spare held ts l ds->(∀n∈BI P ts ds,n<=reachBytes)->
  ∃x:F.den,cV (λS aI=>w.cell? ⟨S,aI,none⟩) F x l/\tQ F x
 |0,_,_,g,_,_,_,_=>by cases g
 |_+1,_,[],g,_,_,_,_=>by cases g
 |f+1,F,t::t'::ts,g,l,ds,hc,L=>by
  cases F with
  |pr A B=>
   simp only[vg,cr]at g
   obtain⟨c,r,d,v,rfl,rfl,M,h3⟩:=hc
   simp only[BI,bg]at L
   let ⟨x,O,R⟩:=EN f A [t] g.1 c [d] ⟨c,[],d,[],(gO c).symm,J,M,J,J⟩ (λn p=>by simp only[BI,gO]at p;exact L n<|.inl p)
   let ⟨y,U,s⟩:=EN f B (t'::ts) g.2 r v h3<|λn p=>L n<|.inr p
   exact⟨(x,y),⟨c,r,J,O,U⟩,R,s⟩
  |_=>simp[vg]at g
 |f+1,F,[t],g,l,ds,hc,L=>by
  obtain⟨c,r,d,v,rfl,rfl,⟨C,ps,M⟩,rfl,rfl⟩:=hc;rw[gO];have L:∀n∈d.weights P t,n<=reachBytes:=λn p=>L n (by simp only[BI,gO];exact p)
  cases C with
  |zero=>cases M
  |succ C=>
   unfold vg at g
   cases hu:P.underlying t with
   |none=>rw[hu]at g;cases g
   |some u=>
    rw[hu]at g
    cases u with
    |bool=>
     cases F with
     |bool=>let ⟨S,hb⟩:=trod_bool hu M;exact⟨S,hb,e⟩
     |_=>simp at g
    |int k=>
     cases F with
     |int k'=>
      have v:k'=k:=aK g
      subst v
      let ⟨n,p,W⟩:=trod_int hu M
      exact⟨n,p,W⟩
     |_=>simp at g
    |slice v=>
     cases F with
     |sl Q=>
      simp only[cr,decide_eq_true_eq]at g
      let ⟨⟨z,g2⟩,I⟩:=g
      rcases trod_slice hu M with rfl|⟨a,len,cap,elems,rest,rfl,hlc,rfl,N⟩
      .exact⟨[],⟨_,J,none,0,J,a7 _,ay,.inl J⟩,λx K=>by cases K⟩
      .let ⟨m1,m2⟩:=Ok N;rw[wG]at m1;have EO:(Z elems+Z rest)*P.bytesOf v<=reachBytes:=L _ (by simp[UN,hu]);have hwe:∀n∈Om P v (elems.map (·.1)),n<=reachBytes:=λn p=>L n (by simp[UN,hu,p])
       have key:∀i,i<len->∃x:Q.den,∃l:V a4,(Z l=Q.n/\cV (λS aI=>w.cell? ⟨S,aI,none⟩) Q x l/\∀j(hj:j<Z l),w.cell? ((a.add<|i*Q.n).add j)=ad l[j])/\tQ Q x:=by
        intro i D;let ⟨y,U,s⟩:=m2 i i<|kS D;cases X:w.cells? base (a.add<|i*P.cellsOf v) (P.cellsOf v)with
        |none=>rw[X]at s;cases s
        |some l=>
         rw[X]at s
         let ⟨l1,l2⟩:=arA X
         have hy:y.1∈elems.map (·.1):=jW.2 ⟨y,KD U,J⟩
         let ⟨x,O,R⟩:=EN f Q [v] z l [y.1] ⟨l,[],y.1,[],(gO l).symm,J,⟨C,y.2,s⟩,J,J⟩ (λn p=>by simp only[BI,gO]at p;exact hwe n<|afi hy n p)
         rw[g2]at l1 l2
         exact⟨x,l,⟨l1,O,l2⟩,R⟩
       let ⟨xs,q1,q2⟩:=afk len key;refine⟨xs,⟨_,J,ad a,cap,by rw[q1],G,?_,?_⟩,λx K=>?_⟩
       .have e1:Z xs*Q.n<=(Z elems+Z rest)*P.bytesOf v:=ls G I;simp only[reachBytes]at EO;omega
       .by_cases h0:len=0
        .left;exact fB G
        .right;obtain⟨S,off,E⟩:=a;have q:E=none:=by let ⟨l,⟨c1,_,c3⟩,_⟩:=q2 0 G;have:=Q.zl;have:=c3 0 G;simpa[UM]using World.cell?_spot this
         subst q;refine⟨S,off,J,λi D=>?_⟩;let ⟨l,⟨c1,c2,c3⟩,_⟩:=q2 i D;refine⟨l,c1,c2,λj hj=>?_⟩;have:=c3 j hj;rw[arz]at this;exact this
       .let ⟨i,D,v⟩:=J4 K;let ⟨_,_,W⟩:=q2 i D;rw[<-v];exact W
     |_=>simp at g
    |struct fs=>
     simp only[cr,decide_eq_true_eq]at g
     let ⟨⟨z,g2⟩,I⟩:=g
     let ⟨l1,xs,K,hd⟩:=trod_struct hu M
     subst hd
     have:=aff (off:=0) g2 G K
     rw[o5]at this
     exact EN f F _ z c _ this (λn p=>L n<|by simpa[UN,hu]using p)
    |array n v=>
     simp only[cr,decide_eq_true_eq]at g
     let ⟨z,I⟩:=g
     let ⟨l1,xs,K,hd⟩:=trod_array hu M
     subst hd
     rw[OE]at K
     have Bq:(xs.map (·.1)).length=n:=by rw[cR,(Ok K).1];simp
     have:=afg (n:=n) (k:=0) G (by rw[l1,<-I,afj]) K
     rw[rM,o5]at this
     refine EN f F _ z c _ this<|λm N=>L m ?_
     rw[afh Bq]at N
     simpa[UN,hu]using N
    |_=>simp at g
def UO{f}{T}{t}{v}{d:zi H}{ps}(c:vg P f T [t]=true)(g:DataW.Trod enc P w base spare held t v d ps)(i:∀n∈d.weights P t,n<=reachBytes):
  ∃x:T.den,cV (λk l=>w.cell? ⟨k,l,none⟩) T x v.cells.toList/\tQ T x:=by
 let ⟨fuel,m⟩:=g
 refine EN f T [t] c _ [d] ⟨_,[],d,[],(gO _).symm,J,⟨fuel,ps,m⟩,J,J⟩ (λn a=>?_)
 simp only[BI,gO]at a
 exact i n a
def UP{r:Reach}{t:dI}{v:a4}(d:(match P.underlying t with|some (.struct _)=>true|some (.array _ _)=>true|_=>ah)=true)(a:Value.okWide P w r base t v):∃c,v= .agg c:=by
 unfold Value.okWide at a;split at d
 .rename_i e;rw[e]at a;let ⟨c,a,_⟩:=a;exact⟨c,a⟩
 .rename_i e;rw[e]at a;let ⟨c,a,_⟩:=a;exact⟨c,a⟩
 .cases d
def UQ{g}{c}{x:c.den}{d}(f:cV g.H c x (Value.agg d).cells.toList):bG g (.a<|av c x) (.agg d):=⟨d.toList,ay,zn c x _ f⟩
end
end Go.El
