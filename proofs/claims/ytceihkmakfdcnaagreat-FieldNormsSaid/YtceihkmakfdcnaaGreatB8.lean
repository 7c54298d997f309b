/- Contracts: integers of the program: bits of a word, division by one word, shifts. Own work; no condition. -/
import Derived.Test.YtceihkmakfdcnaaGreatB7
import Derived.Test.YtceihkmakfdcnaaGreatB6
set_option linter.all false
set_option maxHeartbeats 16000000
set_option maxRecDepth 100000
open BitVec renaming ofInt->ji
open Bool renaming false->ah,true->ae
open Go.El renaming rr->e,cS->S,K0->F,re->z,dj->j,cI->O,ahT->r,rb->R
open Go.IntKind renaming wrap->aw,bits->c8
open Go.Proofs.Tryz renaming prog->c,func190->abU
open Int renaming toNat->af,pow_nonneg->abL,fdiv->T5,natAbs->aA
open List renaming length->Z,replicate->bl,getD->I,take->M,drop->ay
open _root_ renaming Int->Y,Nat->V,List->E
namespace Go.El
open Go Go.Proofs
def Cb x b s(d:0<=x)(f:x%2^s=0)(g:0<=b)(a:b<2^s)(h:x+b<18446744073709551616):
  aw .u64 ((ji (c8 .u64) x|||ji (c8 .u64) b).toNat:Y)=x+b:=by
 obtain⟨X,rfl⟩:=Cc d
 obtain⟨C,rfl⟩:=Cc g
 have i:((X:Y)%2^s)=((X%2^s:V):Y):=ax
 rw[i]at f
 have a:C<2^s:=by
  have:((C:V):Y)<((2^s:V):Y):=by rw[uL];exact a
  omega
 have k:(ji (c8 .u64) (X:Y)|||ji (c8 .u64) (C:Y)).toNat=X+C:=by
  rw[Nz,Nz,BitVec.toNat_or,NA,NA,show c8 .u64=64 from J,oY G,oY G];have l:X=2^s*(X/2^s):=by have:=ru X<|2^s;omega
  rw[l,<-Nat.two_pow_add_eq_or_of_lt a]
 rw[k,wrap_u64 _ G G];omega
def zI x s(a:0<=x)(b:s<=64)(h:x*2^s<18446744073709551616):aw .u64 (x*2^(min (af ((s:V):Y))<|c8 .u64))=x*2^s:=by rw[cr,show min s (c8 .u64)=s from sK b,wrap_u64 _ (jB a<|abL D) h]
def zJ(x:Y) s(a:s<=64):x.fdiv (2^(min (af ((s:V):Y))<|c8 .u64))=x/2^s:=by rw[cr,show min s (c8 .u64)=s from sK a,B9 _<|abL D]
def abM(x:Y) s(a:s<=32):x.fdiv (2^(min (af ((s:V):Y))<|c8 .u32))=x/2^s:=by rw[cr,show min s (c8 .u32)=s from sK a,B9 _<|abL D]
def anr(x:V)(p:0<x)(u:x<4294967296):∃l:V,ao c 245 [cW x] (O l)/\l<=32/\1<=l/\x<2^l/\2^l<=2*x:=by
 obtain⟨y,n,m,hy,ex⟩:∃y n:V,(n=0/\y=x/\x<256\/n=8/\y=x/256/\256<=x/\x<65536\/n=16/\y=x/65536/\65536<=x/\x<16777216\/n=24/\y=x/65536/256/\16777216<=x)/\y<256/\0<y:=by
  by_cases a1:x<256
  .exact⟨x,0,.inl ⟨J,J,a1⟩,a1,p⟩
  .by_cases a2:x<65536
   .exact⟨x/256,8,.inr<|.inl ⟨J,J,G,a2⟩,G,G⟩
   .by_cases s:x<16777216
    .exact⟨x/65536,16,.inr<|.inr<|.inl ⟨J,J,G,s⟩,G,G⟩
    .exact⟨x/65536/256,24,.inr<|.inr<|.inr ⟨J,J,G⟩,G,G⟩
 let ⟨l,el,v,h2,o⟩:=amV hy;have o:2^l<=2*y:=G;have w:1<=l:=by
  by_cases t:l=0
  .subst t;simp at h2;omega
  .omega
 refine⟨n+l,?_,G,G,?_,?_⟩
 .have f:(x:Y).fdiv (2^(min (af ((16:V):Y))<|c8 .u32))=((x/65536:V):Y):=by rw[abM _ _ G];omega
  have k:∀h:V,(h:Y).fdiv (2^(min (af ((8:V):Y))<|c8 .u32))=((h/256:V):Y):=λh=>by rw[abM _ _ G];omega
  have wu8:∀h:V,h<256->aw .u8 (h:Y)=(h:Y):=λh B=>by simp[aw,c8,IntKind.signed];omega
  refine aL Tryz.func245 ?_;refine e J<|j<|e J ?_;refine F J (λi=>?_)<|λi=>?_
  .have i:65536<=x:=by have i:(65536:Y)<=(x:Y):=aW i;omega
   refine e J (hp:=aF)<|rt J<|aK<|j<|e J ?_;refine F J (λb=>?_)<|λb=>?_
   .have b:256<=x/65536:=by have b:(256:Y)<=(x:Y).fdiv (2^(min (af ((16:V):Y))<|c8 .u32)):=aW b;rw[f]at b;omega
    refine e J (hp:=aF)<|rt J (hp:=aF)<|aK ?_;refine eR (st':=⟨[(0,cW y),(2,O n)],[],9,[]⟩) (wk ⟨⟨_,J,bg.of_eq<|DR<|by show T5 (T5 (x:Y)<|2^(min (af ((16:V):Y))<|c8 .u32)) (2^(min (af ((8:V):Y))<|c8 .u32))=_;rw[f,k];omega⟩,⟨_,J,bg.of_eq<|jb G⟩,A⟩ A) ?_;refine R<|rx (x:= .c<|.I .u8 l) (pm:= .le 0<|aw .u8 (y:Y)) J (Nh J J J J NB) NC (hp:=aF)<|z J (hp:=aF)<|bY J<|jb ?_;show(n:Y)+(l:Y)=((n+l:V):Y);omega
   .have b:x/65536<256:=by have b:¬(256:Y)<=(x:Y).fdiv (2^(min (af ((16:V):Y))<|c8 .u32)):=bc b;rw[f]at b;omega
    refine aE ?_;refine eR (st':=⟨[(0,cW y),(2,O n)],[],5,[]⟩) (wk ⟨⟨_,J,bg.of_eq<|DR<|by show T5 (x:Y) (2^(min (af ((16:V):Y))<|c8 .u32))=_;rw[f];omega⟩,⟨_,J,bg.of_eq<|jb G⟩,A⟩ A) ?_;refine R<|rx (x:= .c<|.I .u8 l) (pm:= .le 0<|aw .u8 (y:Y)) J (Nh J J J J NB) NC (hp:=aF)<|z J (hp:=aF)<|bY J<|jb ?_;show(n:Y)+(l:Y)=((n+l:V):Y);omega
  .have i:x<65536:=by have i:¬(65536:Y)<=(x:Y):=bc i;omega
   refine aE<|j<|e J ?_;refine F J (λb=>?_)<|λb=>?_
   .have b:256<=x:=by have b:(256:Y)<=(x:Y):=aW b;omega
    refine e J (hp:=aF)<|rt J (hp:=aF)<|aK ?_;refine eR (st':=⟨[(0,cW y),(2,O n)],[],5,[]⟩) (wk ⟨⟨_,J,bg.of_eq<|DR<|by show T5 (x:Y) (2^(min (af ((8:V):Y))<|c8 .u32))=_;rw[k];omega⟩,⟨_,J,bg.of_eq<|jb G⟩,A⟩ A) ?_;refine R<|rx (x:= .c<|.I .u8 l) (pm:= .le 0<|aw .u8 (y:Y)) J (Nh J J J J NB) NC (hp:=aF)<|z J (hp:=aF)<|bY J<|jb ?_;show(n:Y)+(l:Y)=((n+l:V):Y);omega
   .have b:x<256:=by have b:¬(256:Y)<=(x:Y):=bc b;omega
    refine aE ?_;refine eR (st':=⟨[(0,cW y),(2,O n)],[],3,[]⟩) (wk ⟨⟨_,J,bg.of_eq<|DR (G:(x:Y)=(y:Y))⟩,⟨_,J,bg.of_eq<|jb G⟩,A⟩ A) ?_;refine R<|rx (x:= .c<|.I .u8 l) (pm:= .le 0<|aw .u8 (y:Y)) J (Nh J J J J NB) NC (hp:=aF)<|z J (hp:=aF)<|bY J<|jb ?_;show(n:Y)+(l:Y)=((n+l:V):Y);omega
 .rcases m with⟨d,g,a⟩|⟨d,g,a⟩|⟨d,g,a⟩|⟨d,g,a⟩
  .subst d g;simpa using h2
  .subst d;rw[ku];omega
  .subst d;rw[ku];omega
  .subst d;rw[ku];omega
 .rcases m with⟨d,g,a⟩|⟨d,g,a⟩|⟨d,g,a⟩|⟨d,g,a⟩
  .subst d g;simpa using o
  .subst d;rw[ku];omega
  .subst d;rw[ku];omega
  .subst d;rw[ku];omega
def ans(x:V)(a:0<x)(b:x<4294967296):∃s:V,ao c 223 [cW x] (O s)/\s<=31/\2147483648<=x*2^s/\x*2^s<4294967296:=by
 let ⟨l,d,k,h2,f,g⟩:=anr x a b;have m:2^l*2^(32-l)=4294967296:=by rw[<-ku,(G:l+(32-l)=32)]
 have h:0<2^(32-l):=km D;have n:x*2^(32-l)<2^l*2^(32-l):=T6 f h;have i:2^l*2^(32-l)<=2*x*2^(32-l):=et _ g;rw[wh]at i;refine⟨32-l,?_,G,G,G⟩;refine aL Tryz.func223 ?_;refine e J<|R<|rc J J d<|z J (hp:=aF)<|bY J<|jb ?_;show(32:Y)-(l:Y)=((32-l:V):Y);omega
def ant a d(n:bW a)(l:0<d)(o:d<4294967296)(T:Z a<=1099511627776):ao c 222 [S al a,cU d] (.t [(ah,[.S al (r<|af<|val a/d)]),(ah,[.I .u64 (val a%d)])]):=by
 refine aL Tryz.func222 ?_;refine e J<|R ?_;refine rm al (Z a) J J J J J J (mE .u32) J ?_ ?_ ?_
 .show _*4<=_;omega
 .show _*1<=_;omega
 refine z J<|e J<|dj<|e J ?_;refine az<|bq (α:=V×E Y×Y) (λx=>⟨[(0,S al a),(1,cU d),(6,.c<|.X 1002000),(7,cU x.2.2),(8,O<|(x.1:Y)-1)],[(1002000,.vec 142 al x.2.1)],4,[]⟩) (E4 a d) (λx=>x.1) (Z a,bl (Z a) 0,0) ?_ aV ?_
 .exact⟨aT _,ax,rI _,hY _,l,xL⟩
 .rintro⟨k,q,b⟩ f;have p:Z q=Z a:=f.len;have i:0<=b:=f.r0;have m:b<d:=f.r1;have W:k<=Z a:=f.k;refine dj<|e J ?_;refine F J (λh=>?_) (λh=>?_)
  .have h:(k:Y)-1>=0:=by simpa using h
   obtain⟨j,rfl⟩:∃j,k=j+1:=⟨k-1,G⟩;have u:af (((j+1:V):Y)-1)=j:=G;have g:=de n j;have H:=M6 i m g.1 g.2 o;have w:=f.next n o;refine aE<|dj<|az<|e J (hp:=aF) ?_;have B:aw .u64 ((ji (c8 .u64) (aw .u64<|b*2^(min (af ((32:V):Y))<|c8 .u64))|||ji (c8 .u64) (aw .u64<|I a (af<|((j+1:V):Y)-1) 0)).toNat:Y)=b*4294967296+I a j 0:=by rw[u,zI b 32 i G G,wrap_u64 (I a j 0) G G,Cb (b*2^32) (I a j 0) 32 G (Fk _ _) G G G,show(2:Y)^32=4294967296 from J]
   generalize ht:b*4294967296+I a j 0=s at w H B;have K:aw .u32 (aw .u64<|s.tdiv d)=s/d:=by rw[uG G,wrap_u64 _ G G,wrap_u32 _ G G]
   have L:s.tmod d=s%d:=lX G;refine eR (st':=⟨[(0,S al a),(1,cU d),(6,.c<|.X 1002000),(8,O<|((j+1:V):Y)-1),(9,cU s)],[(1002000,.vec 142 al q)],6,[]⟩) (wk ⟨sR J,sR J,sR J,sR J,sE J ?_,A⟩ ⟨bR J,A⟩) ?_
   .exact bP B
   refine e J<|rt J<|bL<|rt J<|a4 (j,q.set j<|s/d,s%d) w sY<|wk ⟨sR J,sR J,sR J,sE J ?_,sE J ?_,A⟩ ⟨bE J ?_,A⟩
   .exact bP L
   .refine jb ?_;show((j+1:V):Y)-1-1=(j:Y)-1;omega
   .rw[K,u]
  .have h:¬((k:Y)-1>=0):=by simpa using h
   have:k=0:=G;subst this;refine bt<|aK<|da 1002000 J J J<|R ?_;refine rc J J (wb _)<|z J<|bY J ?_;have C:val a=val q*d+b:=f.v;have P:bW q:=f.r;have eq:val a/d=val q:=by rw[C,wc,B6 _ _ G,E6 i m];omega
   have Q:val a%d=b:=by rw[C,wc,Tw,gX i m]
   rw[oV P,eq,Q];rfl
def anu{a}(b:bW a) s i:0<=val (M i a)*2^s/4294967296^i/\val (M i a)*2^s/4294967296^i<2^s:=by have d:=lW<|jm b i;have h:=nf<|jm b i;have k:=uF (m:=(M i a).length) (n:=i) bX;have f:=jJ i;have g:(0:Y)<2^s:=nT D;refine⟨zB (jB d G) G,E5 f ?_⟩;rw[eW];exact Int.mul_lt_mul_of_pos_left G g
def anv a s i:
  bT (i+1) (val (M (i+1) a)*2^s)=bT i (val (M i a)*2^s)++[(I a i 0*2^s+val (M i a)*2^s/4294967296^i)%4294967296]/\
  val (M (i+1) a)*2^s/4294967296^(i+1)=(I a i 0*2^s+val (M i a)*2^s/4294967296^i)/4294967296:=by
 have d:=jJ i
 have e:val (M (i+1) a)*2^s=val (M i a)*2^s+I a i 0*2^s*4294967296^i:=by rw[ko,nU,jo,eW<|4294967296^i,<-jo]
 have b:val (M (i+1) a)*2^s/4294967296^i=I a i 0*2^s+val (M i a)*2^s/4294967296^i:=by rw[e,B6 _ _ G,wc]
 refine⟨?_,by rw[No,b]⟩
 rw[Fb,b,e,TM]
def abO xs n(w:Y):(xs++bl (n+1) 0).set (Z xs) w=(xs++[w])++bl n 0:=by rw[Nt _ _ (aT _),kg,yS,TN,lP];rfl
def abP a(s:V)(v:bW a)(x:s<=31)(L:Z a<=1099511627776):oz c 224 [S al a,O s] 142 al (bT (Z a+1)<|val a*2^s):=by
 refine Ic Tryz.func224 J J J J D ?_;have o:(2:Y)^s<=2^31:=by have:=eZ (D:2>0) x;have w:(2:Y)^s=((2^s:V):Y):=ax;omega
 have B:(0:Y)<2^s:=nT D;refine e J<|R ?_;refine rm al (Z a+1) J J J J J J (mE .u32) J ?_ ?_ ?_
 .show _*4<=_;omega
 .show _*1<=_;omega
 refine z J<|e J<|j<|e J ?_;refine az<|bq (α:=V) (λi=>⟨[(0,S al a),(1,O s),(5,.c<|.X 1003000),(6,cU<|val (M i a)*2^s/4294967296^i),(14,O<|Z a),(15,O i)],[(1003000,.vec 142 al<|bT i (val (M i a)*2^s)++bl (Z a+1-i) 0)],4,[]⟩) (λi=>i<=Z a) (λi=>Z a-i) 0 (bf _) (wk ⟨sR J,sR J,sR J,sE J ?_,sR J,sR J,A⟩ ⟨bE J ?_,A⟩) ?_
 .simp[val];rfl
 .simp[bT]
 intro i P;have k:=anu v s i;have d:=anv a s i;have b:Z (bT i<|val (M i a)*2^s)=i:=s0 _ _;generalize l:val (M i a)*2^s/4294967296^i=f at k d;refine e J<|j ?_;refine F J (λh=>?_)<|λh=>?_
 .have h:i<Z a:=by simpa using h
  have g:=de v i;have p:0<=I a i 0*2^s:=jB g.1 G;have C:I a i 0*2^s<=4294967295*2^31:=xO G o G D;refine aE<|j<|az<|e J<|e J (hp:=aF) ?_;have H:aw .u64 ((ji (c8 .u64) (aw .u64<|aw .u64 (I a (af (i:Y)) 0)*2^(min (af ((s:V):Y))<|c8 .u64))|||ji (c8 .u64) f).toNat:Y)=I a i 0*2^s+f:=by rw[cr i,wrap_u64 (I a i 0) G G,zI _ s g.1 G G,Cb _ f s p (Fk _ _) k.1 k.2 G]
  generalize ht:I a i 0*2^s+f=t at*;refine eR (st':=⟨[(0,S al a),(1,O s),(5,.c<|.X 1003000),(7,O i),(8,cU t),(14,O<|Z a),(15,O i)],[(1003000,.vec 142 al<|bT i (val (M i a)*2^s)++bl (Z a+1-i) 0)],7,[]⟩) (wk ⟨sR J,sR J,sR J,sR J,sE J ?_,sR J,sR J,A⟩ ⟨bR J,A⟩) ?_
  .exact bP H
  have u:Z (bT i (val (M i a)*2^s)++bl (Z a+1-i) (0:Y))=Z a+1:=by rw[iX,b,fY];omega
  refine e J (hp:=aF)<|rt J (hp:=aF)<|bL<|rt J<|a4 (i+1) h qy<|wk ⟨sR J,sR J,sR J,sE J ?_,sR J,sR J,A⟩ ⟨bE J ?_,A⟩
  .refine bP ?_;rw[d.2];exact zJ t 32 G
  .refine bh (aD.vec 142 al) ?_;have w:aw .u32 t=t%4294967296:=Nc;have m:=abO (bT i<|val (M i a)*2^s) (Z a-i)<|t%4294967296;rw[b,(G:Z a-i+1=Z a+1-i)]at m;rw[w,cr,m,d.1,(G:Z a-i=Z a+1-(i+1))]
 .have h:¬i<Z a:=by simpa using h
  have K:i=Z a:=G;subst K;have n:f<4294967296:=G;have u:Z (bT (Z a) (val (M (Z a) a)*2^s)++bl (Z a+1-Z a) (0:Y))=Z a+1:=by rw[iX,b,fY];omega
  refine bt<|aK<|e J (hp:=aF)<|e J ?_;refine eR (st':=⟨[(4,.c<|.X 1003000)],[(1003000,.vec 142 al<|bT (Z a+1)<|val a*2^s)],20,[]⟩) (wk ⟨sR J,A⟩ ⟨bE J ?_,A⟩)<|bV<|Ib (id:=1003000) cv J J;refine bh (aD.vec 142 al) ?_;have m:=abO (bT (Z a)<|val (M (Z a) a)*2^s) 0 f;rw[b]at m;rw[wrap_u32 f k.1 n,cr,(G:Z a+1-Z a=0+1),m,DV,ik,Fb,gQ];rw[gQ]at l;rw[l,gX k.1 n]
def anw t s(a:0<=t)(h:t<18446744073709551616)(d:s<=31):
  aw .u64 ((ji (c8 .u64) t&&& ji (c8 .u64) (aw .u64<|aw .u64 (1*2^(min (af ((s:V):Y))<|c8 .u64))-1)).toNat:Y)=t%2^s:=by
 have i:2^s<=2^31:=eZ D d
 have b:0<2^s:=km D
 have f:(2:Y)^s=((2^s:V):Y):=ax
 obtain⟨T,rfl⟩:=Cc a
 rw[zI 1 s D G G,kX,wrap_u64 (2^s-1) G G]
 have g:(2:Y)^s-1=((2^s-1:V):Y):=G
 rw[g,Nz,Nz,BitVec.toNat_and,NA,NA,show c8 .u64=64 from J,oY G,oY G,Nat.and_two_pow_sub_one_eq_mod]
 have:=fN T b
 rw[wrap_u64 _ G G,f,IE]
def anx a(s:V)(m:bW a)(n:s<=31)(L:Z a<=1099511627776):ao c 226 [S al a,O s] (S al<|r<|af<|val a/2^s):=by
 refine aL Tryz.func226 ?_;have C:(2:Y)^s<=2^31:=by have:=eZ (D:2>0) n;have P:(2:Y)^s=((2^s:V):Y):=ax;omega
 have f:(0:Y)<2^s:=nT D;refine e J<|R ?_;refine rm al (Z a) J J J J J J (mE .u32) J ?_ ?_ ?_
 .show _*4<=_;omega
 .show _*1<=_;omega
 refine z J<|e J<|dj<|e J ?_;refine az<|bq (α:=V×E Y×Y) (λx=>⟨[(0,S al a),(1,O s),(5,.c<|.X 1002000),(6,cU x.2.2),(7,O<|(x.1:Y)-1)],[(1002000,.vec 142 al x.2.1)],4,[]⟩) (E4 a<|2^s) (λx=>x.1) (Z a,bl (Z a) 0,0) ?_ aV ?_
 .exact⟨aT _,ax,rI _,hY _,f,xL⟩
 .rintro⟨k,q,b⟩ d;have o:Z q=Z a:=d.len;have i:0<=b:=d.r0;have p:b<2^s:=d.r1;have Q:k<=Z a:=d.k;refine dj<|e J ?_;refine F J (λh=>?_) (λh=>?_)
  .have h:(k:Y)-1>=0:=by simpa using h
   obtain⟨j,rfl⟩:∃j,k=j+1:=⟨k-1,G⟩;have u:af (((j+1:V):Y)-1)=j:=G;have g:=de m j;have l:=M6 i p g.1 g.2 G;have w:=d.next m G;refine aE<|dj<|az<|e J (hp:=aF) ?_;have B:aw .u64 ((ji (c8 .u64) (aw .u64<|b*2^(min (af ((32:V):Y))<|c8 .u64))|||ji (c8 .u64) (aw .u64<|I a (af<|((j+1:V):Y)-1) 0)).toNat:Y)=b*4294967296+I a j 0:=by rw[u,zI b 32 i G G,wrap_u64 (I a j 0) G G,Cb (b*2^32) (I a j 0) 32 G (Fk _ _) G G G,show(2:Y)^32=4294967296 from J]
   generalize ht:b*4294967296+I a j 0=t at w l B;refine eR (st':=⟨[(0,S al a),(1,O s),(5,.c<|.X 1002000),(7,O<|((j+1:V):Y)-1),(8,cU t)],[(1002000,.vec 142 al q)],6,[]⟩) (wk ⟨sR J,sR J,sR J,sR J,sE J ?_,A⟩ ⟨bR J,A⟩) ?_
   .exact bP B
   refine e J (hp:=aF)<|rt J (hp:=aF)<|bL<|rt J<|a4 (j,q.set j<|t/2^s,t%2^s) w sY<|wk ⟨sR J,sR J,sR J,sE J ?_,sE J ?_,A⟩ ⟨bE J ?_,A⟩
   .exact bP<|anw t s l.1 l.2.1 n
   .refine jb ?_;show((j+1:V):Y)-1-1=(j:Y)-1;omega
   .refine bh (aD.vec 142 al) ?_;rw[zJ t s G,u,wrap_u32 _ G G]
  .have h:¬((k:Y)-1>=0):=by simpa using h
   have:k=0:=G;subst this;refine bt<|aK<|da 1002000 J J J<|R ?_;refine rc J J (wb _)<|z J<|bY J ?_;have H:val a=val q*2^s+b:=d.v;have K:bW q:=d.r;have eq:val a/2^s=val q:=by rw[H,wc,B6 _ _ G,E6 i p];omega
   rw[oV K,eq]
def qE n:aw .u64 n=n%18446744073709551616:=Nc
def xR n:aw .u32 n=n%4294967296:=Nc
def zK{x a:Y}(h:(x !=a)=ae):x≠a:=eh
def xS{x a:Y}(h:(x !=a)=ah):x=a:=eh
def anz a b(m:bW a)(o:bW b)(x:can a)(B:can b):ao c 161 [S al a,S al b] (O<|dK (val a)<|val b):=by
 refine aL Tryz.func161<|vL 0 J λs=>vL 1 J λt=>?_;simp only[ET.n,oW]at s t;refine e J<|dj<|e J ?_;refine F J (λh=>?_)<|λh=>?_
 .have h:Z a≠Z b:=by have h:=zK h;omega
  refine dj<|e J ?_;refine F J (λd=>?_)<|λd=>?_
  .have d:Z a<Z b:=by have d:(Z a:Y)<(Z b:Y):=aW d;omega
   refine e J<|bV ?_;repeat(first|refine cQ ?_|refine lQ ?_|refine mq ?_)
   refine fg J ?_;rw[dK,q<|M2 m o B d];rfl
  .have d:¬Z a<Z b:=by have d:¬(Z a:Y)<(Z b:Y):=bc d;omega
   refine aE ?_;refine e J<|bV ?_;repeat(first|refine cQ ?_|refine lQ ?_|refine mq ?_)
   refine fg J ?_;have:=M2 o m x G;rw[dK,y G,q this];rfl
 .have u:Z a=Z b:=by have h:=xS h;omega
  refine aE<|dj<|e J ?_;refine az<|bq (α:=V) (λk=>⟨[(0,S al a),(1,S al b),(5,O<|(k:Y)-1)],[],3,[]⟩) (λk=>k<=Z a/\ay k a=ay k b) (λk=>k) (Z a) ⟨aT _,by simp[u]⟩ aV ?_;rintro k ⟨H,l⟩;refine dj<|e J ?_;refine F J (λv=>?_)<|λv=>?_
  .simp at v;obtain⟨j,rfl⟩:∃j,k=j+1:=⟨k-1,G⟩;have C:(((j+1:V):Y)-1)=j:=G;have g:j<Z a:=G;rw[C];refine aE<|dj<|az<|e J ?_;refine F J (λp=>?_) (λp=>?_)
   .have p:I a j 0≠I b j 0:=zK p;refine dj<|e J ?_;refine F J (λi=>?_) (λi=>?_)
    .have i:I a j 0<I b j 0:=aW i;refine e J<|bV ?_;repeat(first|refine cQ ?_|refine lQ ?_|refine mq ?_)
     refine fg J ?_;rw[dK,q<|M3 m o j l u g i];rfl
    .have i:¬I a j 0<I b j 0:=bc i;refine aE ?_;refine e J<|bV ?_;repeat(first|refine cQ ?_|refine lQ ?_|refine mq ?_)
     refine fg J ?_;have:=M3 o m j l.symm u.symm G G;rw[dK,y G,q this];rfl
   .have w:I a j 0=I b j 0:=xS p;refine dc<|bL<|rt J<|a4 j ⟨G,?_⟩ sY aV;have f:j<Z b:=G;rw[rJ g,rJ f,l];simp only[aN,cO g,cO f,rv]at w;rw[w]
  .simp at v;have:k=0:=G;subst this;refine bt<|aK ?_;refine e J<|bV ?_;repeat(first|refine cQ ?_|refine lQ ?_|refine mq ?_)
   refine fg J ?_;simp only[qh]at l;rw[l,dK,y G,y G];rfl
def ND m k:ao c 161 [S al (r m),S al<|r k] (O<|dK m k):=by have:=anz (r m) (r k) (dW m) (dW k) (wa m)<|wa k;rw[eJ,eJ]at this;exact this
def anA a b(p:bW a)(s:bW b)(T:Z b<=Z a)(B:val b<=val a)(W:Z a<=1099511627776):ao c 162 [S al a,S al b] (S al<|r<|af<|val a-val b):=by
 refine aL Tryz.func162 ?_;refine e J<|R ?_;refine rm al (Z a) J J J J J J (mE .u32) J ?_ ?_ ?_
 .show _*4<=_;omega
 .show _*1<=_;omega
 refine z J<|e J<|j<|e J ?_;generalize hM:Z a=M;refine az<|bq (α:=V×E Y×Y) (λx=>⟨[(0,S al a),(1,S al b),(5,.c<|.X 1002000),(6,cU x.2.2),(13,O M),(14,O x.1)],[(1002000,.vec 142 al x.2.1)],4,[]⟩) (Is a b M) (λx=>M-x.1) (0,bl M 0,0) ?_ ?_ ?_
 .refine⟨bf _,ax,rI M,?_,hY _,Ir,B2⟩;intro q _;simp only[aN,lY];split<;>rfl
 .exact aV
 .rintro⟨i,o,f⟩ g;have k:Z o=M:=g.len;have C:0<=f:=g.c0;have H:f<=1:=g.c1;have t:i<=M:=g.i;have y:=de p i;have D:=de s i;refine e J<|j ?_;refine F J (λh=>?_) (λh=>?_)
  .have h:i<M:=by have h:(i:Y)<(M:Y):=aW h;omega
   have m:=g.next h p s;simp only at m;refine aE<|j<|az<|e J<|e J (hp:=aF) ?_;refine j<|e J ?_;refine F J (λh2=>?_)<|λh2=>?_
   .have h2:i<Z b:=by have h2:(i:Y)<(Z b:Y):=aW h2;omega
    refine rt J (hp:=aF)<|aK ?_;have l:aw .u64 (aw .u64 (aw .u64 (I a (af (i:Y)) 0)-f)-aw .u64 (I b (af (i:Y)) 0))=(I a i 0-I b i 0-f)%18446744073709551616:=by rw[cr,qE,qE,qE,qE];omega
    generalize K:(I a i 0-I b i 0-f)%18446744073709551616=d at l;refine eR (st':=⟨[(0,S al a),(1,S al b),(5,.c<|.X 1002000),(7,O i),(8,cU d),(13,O M),(14,O i)],[(1002000,.vec 142 al o)],20,[]⟩) (wk ⟨sR J,sR J,sR J,sR J,sE J ?_,sR J,sR J,A⟩ ⟨bR J,A⟩) ?_
    .exact bP l
    refine e J (hp:=aF)<|rt J (hp:=aF)<|bL<|rt J<|a4 (i+1,o.set i<|(4294967296+I a i 0-I b i 0-f)%4294967296,1-(4294967296+I a i 0-I b i 0-f)/4294967296) m xJ<|wk ⟨sR J,sR J,sR J,sE J ?_,sR J,sR J,A⟩ ⟨bE J ?_,A⟩
    .refine bP ?_;show d.fdiv (2^(min (af ((63:V):Y))<|c8 .u64))=1-(4294967296+I a i 0-I b i 0-f)/4294967296;rw[zJ d 63 G];omega
    .refine bh (aD.vec 142 al) ?_;show o.set (af (i:Y)) (aw .u32 d)=o.set i ((4294967296+I a i 0-I b i 0-f)%4294967296);rw[cr,xR];exact bh (o.set i) G
   .have h2:¬i<Z b:=by have h2:¬(i:Y)<(Z b:Y):=bc h2;omega
    have L:I b i 0=0:=TG;refine aE ?_;have l:aw .u64 (aw .u64 (I a (af (i:Y)) 0)-f)=(I a i 0-I b i 0-f)%18446744073709551616:=by rw[cr,qE,qE];omega
    generalize K:(I a i 0-I b i 0-f)%18446744073709551616=d at l;refine eR (st':=⟨[(0,S al a),(1,S al b),(5,.c<|.X 1002000),(7,O i),(8,cU d),(13,O M),(14,O i)],[(1002000,.vec 142 al o)],20,[]⟩) (wk ⟨sR J,sR J,sR J,sR J,sE J ?_,sR J,sR J,A⟩ ⟨bR J,A⟩) ?_
    .exact bP l
    refine e J (hp:=aF)<|rt J (hp:=aF)<|bL<|rt J<|a4 (i+1,o.set i<|(4294967296+I a i 0-I b i 0-f)%4294967296,1-(4294967296+I a i 0-I b i 0-f)/4294967296) m xJ<|wk ⟨sR J,sR J,sR J,sE J ?_,sR J,sR J,A⟩ ⟨bE J ?_,A⟩
    .refine bP ?_;show d.fdiv (2^(min (af ((63:V):Y))<|c8 .u64))=1-(4294967296+I a i 0-I b i 0-f)/4294967296;rw[zJ d 63 G];omega
    .refine bh (aD.vec 142 al) ?_;show o.set (af (i:Y)) (aw .u32 d)=o.set i ((4294967296+I a i 0-I b i 0-f)%4294967296);rw[cr,xR];exact bh (o.set i) G
  .have h:¬i<M:=by have h:¬(i:Y)<(M:Y):=bc h;omega
   have t:i=M:=G;subst t;refine bt<|aK<|da 1002000 J J J<|R ?_;refine rc J J (wb _)<|z J<|bY J ?_;have u:bW o:=g.r;have w:val o-f*4294967296^i=val (List.take i a)-val (List.take i b):=g.v;rw[mH a i G,mH b i G]at w;have P:f=0:=by
    have Q:=nf u;rw[k]at Q;rcases(G:f=0\/f=1)with n|n
    .exact n
    .subst n;omega
   subst P;rw[oV u,<-w];simp
def T7 m k(h:k<=m)(a:Z (r m)<=1099511627776):ao c 162 [S al (r m),S al<|r k] (S al<|r<|m-k):=by have:=anA (r m) (r k) (dW m) (dW k) (sZ h) (by rw[eJ,eJ];omega) a;rw[eJ,eJ,(G:af ((m:Y)-(k:Y))=m-k)]at this;exact this
def anB d f m k(i:Z (r m)<=1099511627776)(l:Z (r k)<=1099511627776):ao c 130 [.a [.B d,.S al<|r m],.a [.B f,.S al<|r k]] (aZ<|sg d m+sg f k):=by
 refine aL Tryz.func130 ?_;refine e J<|j<|e J ?_;refine F J (λh=>?_)<|λh=>?_
 .have h:d=f:=eq_of_beq h;subst h;refine R<|rc J J (abr _ _ i l)<|rc J J (oZ _ _)<|z J<|bV<|cQ<|fg J ?_;have g:sg d (m+k)=sg d m+sg d k:=by unfold sg;split<;>omega
  exact bh aZ g
 .have h:d≠f:=λn=>by subst n;simp at h
  refine aE<|j<|bH J J (ND _ _) J ?_;refine F J (λb=>?_)<|λb=>?_
  .have b:k<=m:=by have b:dK (m:Y) (k:Y)>=0:=aW b;unfold dK at b;split at b<;>omega
   refine R<|rc J J (T7 _ _ b i)<|rc J J (oZ _ _)<|z J<|bV<|cQ<|fg J ?_;have g:sg d (m-k)=sg d m+sg f k:=by unfold sg;cases d<;>cases f<;>simp at h⊢<;>omega
   exact bh aZ g
  .have b:m<=k:=by
    have b:¬dK (m:Y) (k:Y)>=0:=bc b;unfold dK at b;split at b
    .omega
    .split at b<;>omega
   refine aE<|R<|rc J J (T7 _ _ b l)<|rc J J (oZ _ _)<|z J<|bY J ?_;have g:sg f (k-m)=sg d m+sg f k:=by unfold sg;cases d<;>cases f<;>simp at h⊢<;>omega
   exact bh aZ g
def anC a b(d:Sm a)(f:Sm b):ao c 130 [aZ a,aZ b] (aZ<|a+b):=by have h:=anB (cj a) (cj b) (aA a) (aA b) d f;rw[zz,zz]at h;exact h
def nY{x a:Y}(h:(x==a)=ah):x≠a:=eh
def anD g v a n(hU:bW g)(hv:bW v)(hn:Z v=n+2)(hj:a+n+3<=Z g)(hl:Z g<=1099511627777)(anE:2147483648<=I v (n+1) 0)(jh:val ((ay a g).take<|n+3)<val v*4294967296):
  uy c 225 [.c (.W 0 a<|n+3),S al v] 142 al g (cW<|val ((ay a g).take<|n+3)/val v) (cZ g a<|bT (n+3)<|val ((ay a g).take<|n+3)%val v):=by
 refine Ie Tryz.func225 J J J J J D ?_
 have K:=abG hU hv hn hj anE jh
 have g1:=de hU<|a+(n+2)
 have g2:=de hU<|a+(n+1)
 have g3:=de hU<|a+n
 have k1:=de hv<|n+1
 have k2:=de hv n
 have oB:=K.oB
 have hvp:=K.E8
 have a1:af ((Z v:Y))=n+2:=G
 have a2:af ((Z v:Y)-1)=n+1:=G
 have a3:af ((Z v:Y)-2)=n:=G
 generalize hQ:rM 2 ((I g (a+(n+2)) 0*4294967296+I g (a+(n+1)) 0)/I v (n+1) 0) ((I g (a+(n+2)) 0*4294967296+I g (a+(n+1)) 0)%I v (n+1) 0) (I v (n+1) 0) (I v n 0) (I g (a+n) 0)=k
 refine e J<|e J<|e J (hp:=aF) ?_
 rw[a1,a2]
 have e6:aw .u64 ((ji (c8 .u64) (aw .u64<|aw .u64 (I g (a+(n+2)) 0)*2^(min (af ((32:V):Y))<|c8 .u64))|||ji (c8 .u64) (aw .u64<|I g (a+(n+1)) 0)).toNat:Y)=I g (a+(n+2)) 0*4294967296+I g (a+(n+1)) 0:=by rw[wrap_u64 (I g (a+(n+2)) 0) G G,wrap_u64 (I g (a+(n+1)) 0) G G,zI _ 32 G G G,Cb _ _ 32 G (Fk _ _) G G G,show(2:Y)^32=4294967296 from J]
 have ev1:aw .u64 (I v (n+1) 0)=I v (n+1) 0:=wrap_u64 _ G G
 have ev2:aw .u64 (I v n 0)=I v n 0:=wrap_u64 _ G G
 have eu2:aw .u64 (I g (a+n) 0)=I g (a+n) 0:=wrap_u64 _ G G
 have Q:0<=I g (a+(n+2)) 0*4294967296+I g (a+(n+1)) 0:=G
 have ht1:I g (a+(n+2)) 0*4294967296+I g (a+(n+1)) 0<18446744073709551616:=G
 have HW:=@Kn1.small _ _ _ _ _ _ _ _ _ K
 have df:=@Ni _ _ _ _ _ _ _ _ _ K
 have hfi:=K.first
 have IA:=K.q0
 refine eR (st':=⟨[(0,.c<|.W 0 a<|n+3),(1,S al v),(5,O<|Z v),(6,cU<|I g (a+(n+2)) 0*4294967296+I g (a+(n+1)) 0)],[(0,.vec 142 al g)],4,[]⟩) (wk ⟨sR J,sR J,sR J,sE J ?_,A⟩ ⟨bR J,A⟩) ?_
 .exact bP e6
 generalize I g (a+(n+2)) 0*4294967296+I g (a+(n+1)) 0=t at*
 generalize TY:I v (n+1) 0=v1 at*
 generalize anJ:I v n 0=v2 at*
 generalize anK:I g (a+n) 0=u2 at*
 generalize hue:val ((ay a g).take<|n+3)=u at*
 have x1:aw .u64 (I v (af<|(Z v:Y)-1) 0)=v1:=by rw[a2,TY];exact ev1
 have x2:aw .u64 (I v (af<|(Z v:Y)-2) 0)=v2:=by rw[a3,anJ];exact ev2
 have x3:aw .u64 (I g (a+af ((Z v:Y)-2)) 0)=u2:=by rw[a3,anK];exact eu2
 have hd0:0<=t/v1:=zB Q G
 have Nw:0<=t%v1:=iP _ G
 have v7:t%v1<v1:=iR _ G
 have b7:=nW t v1
 have N:((-9223372036854775808<=(Z v:Y)-1/\(Z v:Y)-1<=9223372036854775807)/\0<=(Z v:Y)-1/\(Z v:Y)-1<(Z v:Y))/\aw .u64 (I v (af<|(Z v:Y)-1) 0)≠0:=by rw[x1];omega
 have hQq:=df 2 (t/v1) (t%v1) (by rw[eW];omega) Nw G TH hfi
 rw[hQ]at hQq
 let ⟨q1,q2,q3⟩:=hQq
 refine e J (hp:=by simp only[Pr.an,Pr.h,num,fX,true_and,and_true];exact⟨⟨⟨N,N.1.1⟩,N.1.2⟩,N.2⟩) ?_
 refine nX ⟨[(0,.c<|.W 0 a<|n+3),(1,S al v),(5,O<|Z v),(7,cU k)],[(0,.vec 142 al g)],30,[]⟩ ?_<|λT8=>az<|bq (α:=V×Y×Y) (λx=>⟨[(0,.c<|.W 0 a<|n+3),(1,S al v),(5,O<|Z v),(6,cU t),(7,cU x.2.1),(8,cU x.2.2)],[(0,.vec 142 al g)],6,[]⟩) (λx=>rM x.1 x.2.1 x.2.2 v1 v2 u2=k/\t=x.2.1*v1+x.2.2/\0<=x.2.2/\x.2.2<4294967296/\4294967296<=x.2.2+x.1*2147483648/\u/val v<=x.2.1) (λx=>x.1) (2,t/v1,t%v1) ⟨hQ,by show t=t/v1*v1+t%v1;rw[eW];omega,Nw,(G:t%v1<4294967296),TH,hfi⟩ (wk ⟨sR J,sR J,sR J,sR J,sE J ?_,sE J ?_,A⟩ ⟨bR J,A⟩) ?_
 .clear df HW hQ;refine e J<|j<|e J ?_;refine az (bq (α:=V×Y×Y) (λx=>⟨[(0,.c<|.W 0 a<|n+3),(1,S al v),(5,O<|Z v),(7,cU k),(9,cU x.2.1),(10,cU x.2.2),(82,O<|Z v),(83,O x.1)],[(0,.vec 142 al<|cZ g a<|bT x.1<|val ((ay a g).take x.1)-k*val (M x.1 v))],32,[]⟩) (λx=>x.1<=n+2/\(val ((ay a g).take x.1)-k*val (M x.1 v))/4294967296^x.1= -(x.2.1+x.2.2)/\x.2.1=k*val (M x.1 v)/4294967296^x.1/\(x.2.2=0\/x.2.2=1)) (λx=>n+2-x.1) (0,0,0) ⟨bf _,xL,xL,.inl J⟩ (wk (bM J) ⟨bE J ?_,A⟩) ?_)
  .exact bh (aD.vec 142 al) (Nq g a).symm
  rintro⟨i,C,b⟩ ⟨P,h2,h3,h4⟩;simp only at P h2 h3 h4;have l:=abE hv (G:0<=k) q3 i;rw[<-h3]at l;have gu:=de hU<|a+i;have T:=abC g v a i k (c:=C) (b:=b) J h2;have E:Z (bT i<|val ((ay a g).take i)-k*val (M i v))=i:=s0 _ _;have xE:=xP (U:=g) (j:=a) (ws:=bT i<|val ((ay a g).take i)-k*val (M i v)) G;have H:=Nr (U:=g) (j:=a) (ws:=bT i<|val ((ay a g).take i)-k*val (M i v)) G;have L:=λw=>Ns (U:=g) (j:=a) (ws:=bT i<|val ((ay a g).take i)-k*val (M i v)) w G
  rw[E]at H L;simp only at T;let ⟨s1,s2⟩:=T;refine e J<|j ?_;refine F J (λh=>?_)<|λh=>?_
  .have h:i<n+2:=by have h:(i:Y)<(Z v:Y):=aW h;omega
   have gv:=de hv i;have hm:0<=k*I v i 0/\k*I v i 0<=18446744065119617025:=It G G gv.1 G;have Re:=abF (v:=v) (q:=k) i h3;refine aE<|j<|az<|e J<|e J (hp:=aF) ?_;have ei:af (i:Y)=i:=cr i;have w1:aw .u64 (aw .u64 (k*aw .u64 (I v (af (i:Y)) 0))+C)=k*I v i 0+C:=by rw[ei,wrap_u64 (I v i 0) G G,wrap_u64 (k*I v i 0) G G,wrap_u64 _ G G]
   generalize hp:k*I v i 0+C=p at*;refine eR (st':=⟨[(0,.c<|.W 0 a<|n+3),(1,S al v),(5,O<|Z v),(7,cU k),(10,cU b),(11,O i),(12,cU p),(82,O<|Z v),(83,O i)],[(0,.vec 142 al<|cZ g a<|bT i<|val ((ay a g).take i)-k*val (M i v))],40,[]⟩) (wk ⟨sR J,sR J,sR J,sR J,sR J,sR J,sE J ?_,sR J,sR J,A⟩ ⟨bR J,A⟩) ?_
   .exact bP w1
   generalize hX:cZ g a (bT i<|val ((ay a g).take i)-k*val (M i v))=X at*;refine e J<|e J (hp:=aF) ?_;have w2:p.fdiv (2^(min (af ((32:V):Y))<|c8 .u64))=p/4294967296:=zJ p 32 G;have w3:aw .u64 (aw .u64 (aw .u64 (X.getD (a+af (i:Y)) 0)-aw .u64 (aw .u32 p))-b)=(I g (a+i) 0-p%4294967296-b)%18446744073709551616:=by rw[ei,H,qE,qE,qE,qE,xR];omega
   generalize hd:(I g (a+i) 0-p%4294967296-b)%18446744073709551616=d at*;refine eR (st':=⟨[(0,.c<|.W 0 a<|n+3),(1,S al v),(5,O<|Z v),(7,cU k),(9,cU<|p/4294967296),(11,O i),(13,cU d),(82,O<|Z v),(83,O i)],[(0,.vec 142 al X)],44,[]⟩) (wk ⟨sR J,sR J,sR J,sR J,sE J ?_,sR J,sE J ?_,sR J,sR J,A⟩ ⟨bR J,A⟩) ?_
   .exact bP w2
   .exact bP w3
   refine e J (hp:=aF)<|rt J (hp:=aF)<|bL<|rt J<|a4 (i+1,p/4294967296,1-(4294967296+I g (a+i) 0-p%4294967296-b)/4294967296) ⟨(G:i+1<=n+2),s2,Re.symm,(G:1-(4294967296+I g (a+i) 0-p%4294967296-b)/4294967296=0\/1-(4294967296+I g (a+i) 0-p%4294967296-b)/4294967296=1)⟩ (G:n+2-(i+1)<n+2-i)<|wk ⟨sR J,sR J,sR J,sR J,sR J,sE J ?_,sR J,sR J,A⟩ ⟨bE J ?_,A⟩
   .refine bP ?_;show d.fdiv (2^(min (af ((63:V):Y))<|c8 .u64))=1-(4294967296+I g (a+i) 0-p%4294967296-b)/4294967296;rw[zJ d 63 G];omega
   .refine bh (aD.vec 142 al) ?_;show X.set (a+af (i:Y)) (aw .u32 d)=cZ g a (bT (i+1) _);rw[s1,ei,xR,(G:d%4294967296=(4294967296+I g (a+i) 0-p%4294967296-b)%4294967296),L]
  .have cz:i=n+2:=by have h:¬(i:Y)<(Z v:Y):=bc h;omega
   subst cz;have zE:I v (n+2) 0=0:=by simp[aN,jS (G:Z v<=n+2)]
   rw[zE,gY,Cd,gX l.1 l.2,E6 l.1 l.2,Cd,mH v (n+2+1) G,hue]at s2;rw[zE,gY,Cd,gX l.1 l.2,mH v (n+2+1) G,hue]at s1;generalize hX:cZ g a (bT (n+2)<|val ((ay a g).take<|n+2)-k*val (M (n+2) v))=X at*;refine bt<|aK<|e J (hp:=aF) ?_;have w3:aw .u64 (aw .u64 (aw .u64 (X.getD (a+(Z v:Y).toNat) 0)-C)-b)=(I g (a+(n+2)) 0-C-b)%18446744073709551616:=by rw[a1,H,qE,qE,qE];omega
   generalize hd:(I g (a+(n+2)) 0-C-b)%18446744073709551616=d at*;refine eR (st':=⟨[(0,.c<|.W 0 a<|n+3),(1,S al v),(5,O<|Z v),(7,cU k),(14,cU d)],[(0,.vec 142 al X)],44,[]⟩) (wk ⟨sR J,sR J,sR J,sR J,sE J ?_,A⟩ ⟨bR J,A⟩) ?_
   .exact bP w3
   refine e J (hp:=aF)<|j<|e J (hp:=aF) ?_;have T9:X.set (a+(Z v:Y).toNat) (aw .u32 d)=cZ g a (bT (n+3)<|u-k*val v):=by rw[a1,show n+3=n+2+1 from J,s1,xR,(G:d%4294967296=(4294967296+I g (a+(n+2)) 0-C-b)%4294967296),L]
   have xQ:d.fdiv (2^(min (af ((63:V):Y))<|c8 .u64))=1-(4294967296+I g (a+(n+2)) 0-C-b)/4294967296:=by rw[zJ d 63 G];omega
   generalize HD:1-(4294967296+I g (a+(n+2)) 0-C-b)/4294967296=b' at*;have avE:b'=0\/b'=1:=G;have TZ:=nW u<|val v;have HP:=iP u (G:val v≠0);have zt:=iR u hvp;have hpn:=jJ<|n+2+1;have h5:=nW (u-k*val v)<|4294967296^(n+2+1);have h6:=iP (u-k*val v) (G:(4294967296:Y)^(n+2+1)≠0);have m:=iR (u-k*val v) hpn;rw[s2]at h5;refine F J (λB=>?_)<|λB=>?_
   .have B:b'=0:=by have B:d.fdiv (2^(min (af ((63:V):Y))<|c8 .u64))=0:=eq_of_beq B;rw[<-xQ];exact B
    have hq:k=u/val v:=by
     rw[B]at h5;simp only[Int.neg_zero,gY,rK]at h5;by_cases cz:k=u/val v
     .exact cz
     .exfalso;have e2:k=u/val v+1:=G;have T0:k*val v=val v*(u/val v)+val v:=by rw[e2,nU,kX,eW]
      omega
    have e1:u-k*val v=u%val v:=by have:=eW (u/val v)<|val v;rw[hq];omega
    refine e J<|bV ?_;repeat(first|refine cQ ?_|refine lQ ?_|refine mq ?_)
    refine QR (st':=⟨[(4,cW<|u/val v)],[(0,.vec 142 al<|cZ g a<|bT (n+3)<|u%val v)],60,[]⟩) (wk ⟨sE J ?_,A⟩ ⟨bE J ?_,A⟩)<|zo cv J (bg.refl _) J
    .refine DR ?_;rw[wrap_u32 _ G G];exact hq
    .rw[T9,e1]
   .have B:b'=1:=by have B:¬d.fdiv (2^(min (af ((63:V):Y))<|c8 .u64))=0:=nY B;rw[xQ]at B;omega
    have hq:k=u/val v+1:=by
     rw[B]at h5;rw[Int.mul_neg,ni]at h5;by_cases cz:k=u/val v
     .exfalso;have:k*val v=val v*(u/val v):=by rw[cz,eW]
      omega
     .omega
    have T0:k*val v=val v*(u/val v)+val v:=by rw[hq,nU,kX,eW]
    refine aE ?_;refine eR (st':=⟨[(0,.c<|.W 0 a<|n+3),(1,S al v),(5,O<|Z v),(7,cU k)],[(0,.vec 142 al<|cZ g a<|bT (n+3)<|u-k*val v)],50,[]⟩) (wk (bM J) ⟨bE J ?_,A⟩) ?_
    .rw[T9]
    have Fg:∀x,Z (bT (n+3) x)=n+3:=λx=>s0 _ _
    have hU1:bW (cZ g a<|bT (n+3)<|u-k*val v):=TO hU<|IB _ _;have avF:Z (cZ g a<|bT (n+3)<|u-k*val v)=Z g:=xP uK;have anO:cZ (cZ g a<|bT (n+3)<|u-k*val v) a (bT (n+3)<|val (M (n+3)<|ay a<|cZ g a<|bT (n+3)<|u-k*val v)+val v)=cZ g a (bT (n+3)<|u%val v):=by rw[abI uK (by rw[Fg,Fg]),TP uK,xa uK,iY uK,IC];refine bh (cZ g a)<|Np _ _ _ ?_;rw[Int.emod_add_emod];congr 1;omega
    generalize cZ g a (bT (n+3)<|u-k*val v)=o at*;clear T9 xQ HD s1 s2 L H hX;refine e J<|j<|e J ?_;refine az<|bq (α:=V×Y) (λx=>⟨[(0,.c<|.W 0 a<|n+3),(1,S al v),(5,O<|Z v),(7,cU k),(9,cU x.2),(135,O<|Z v),(136,O x.1)],[(0,.vec 142 al<|cZ o a<|bT x.1<|val ((ay a o).take x.1)+val (M x.1 v))],60,[]⟩) (λx=>x.1<=n+2/\(val ((ay a o).take x.1)+val (M x.1 v))/4294967296^x.1=x.2/\(x.2=0\/x.2=1)) (λx=>n+2-x.1) (0,0) ⟨bf _,xL,.inl J⟩ (wk (bM J) ⟨bE J ?_,A⟩) ?_
    .exact bh (aD.vec 142 al) (Nq o a).symm
    rintro⟨i,C⟩ ⟨P,h2,h4⟩;simp only at P h2 h4;have gu:=de hU1<|a+i;have T:=abD o v a i (c:=C) J h2;simp only at T;let ⟨s1,s2⟩:=T;have E:Z (bT i<|val ((ay a o).take i)+val (M i v))=i:=s0 _ _;have xE:=xP (U:=o) (j:=a) (ws:=bT i<|val ((ay a o).take i)+val (M i v)) G;have H:=Nr (U:=o) (j:=a) (ws:=bT i<|val ((ay a o).take i)+val (M i v)) G;have L:=λw=>Ns (U:=o) (j:=a) (ws:=bT i<|val ((ay a o).take i)+val (M i v)) w G
    rw[E]at H L;refine e J<|j ?_;refine F J (λh=>?_)<|λh=>?_
    .have h:i<n+2:=by have h:(i:Y)<(Z v:Y):=aW h;omega
     have gv:=de hv i;generalize hX:cZ o a (bT i<|val ((ay a o).take i)+val (M i v))=X at*;have ei:af (i:Y)=i:=cr i;refine aE<|j<|az<|e J<|e J (hp:=aF) ?_;have w1:aw .u64 (aw .u64 (aw .u64 (X.getD (a+af (i:Y)) 0)+aw .u64 (I v (af (i:Y)) 0))+C)=I o (a+i) 0+I v i 0+C:=by rw[ei,H,wrap_u64 (I o (a+i) 0) G G,wrap_u64 (I v i 0) G G,wrap_u64 (_+I v i 0) G G,wrap_u64 _ G G]
     generalize ht:I o (a+i) 0+I v i 0+C=s at*;have Q:0<=s/\s<8589934592:=G;refine eR (st':=⟨[(0,.c<|.W 0 a<|n+3),(1,S al v),(5,O<|Z v),(7,cU k),(15,O i),(16,cU s),(135,O<|Z v),(136,O i)],[(0,.vec 142 al X)],70,[]⟩) (wk ⟨sR J,sR J,sR J,sR J,sR J,sE J ?_,sR J,sR J,A⟩ ⟨bR J,A⟩) ?_
     .exact bP w1
     refine e J (hp:=aF)<|rt J (hp:=aF)<|bL<|rt J<|a4 (i+1,s/4294967296) ⟨(G:i+1<=n+2),s2,(G:s/4294967296=0\/s/4294967296=1)⟩ (G:n+2-(i+1)<n+2-i)<|wk ⟨sR J,sR J,sR J,sR J,sE J ?_,sR J,sR J,A⟩ ⟨bE J ?_,A⟩
     .exact bP<|zJ s 32 G
     .refine bh (aD.vec 142 al) ?_;show X.set (a+af (i:Y)) (aw .u32 s)=cZ o a (bT (i+1) _);rw[s1,ei,xR,L]
    .have cz:i=n+2:=by have h:¬(i:Y)<(Z v:Y):=bc h;omega
     subst cz;rw[zE,rK,mH v (n+2+1) G]at s1;generalize hX:cZ o a (bT (n+2)<|val ((ay a o).take<|n+2)+val (M (n+2) v))=X at*;refine bt<|aK<|e J (hp:=aF)<|e J<|bV ?_;refine QR (st':=⟨[(4,cW<|u/val v)],[(0,.vec 142 al<|cZ g a<|bT (n+3)<|u%val v)],90,[]⟩) (wk ⟨sE J ?_,A⟩ ⟨bE J ?_,A⟩)<|zo cv J (bg.refl _) J
     .refine DR ?_;rw[qE,xR];omega
     .refine bh (aD.vec 142 al) ?_;rw[<-anO,show n+3=n+2+1 from J,s1,a1,H,xR,xR,(G:(I o (a+(n+2)) 0+C%4294967296)%4294967296=(I o (a+(n+2)) 0+C)%4294967296),L]
 .refine bP ?_;show aw .u64 (t.tdiv<|aw .u64<|I v (af<|(Z v:Y)-1) 0)=t/v1;have:=Int.ediv_le_self v1 Q;rw[x1,Fa Q,wrap_u64 _ hd0 G]
 .refine bP ?_;show(t.tmod<|aw .u64<|I v (af<|(Z v:Y)-1) 0)=t%v1;rw[x1,Iz Q]
 .rintro⟨f,q,r⟩ ⟨P,h2,h3,h4,h5,h6⟩;simp only at P h2 h3 h4 h5 h6;have hqs:=HW h2 h3;cases f with
  |zero=>omega
  |succ f=>
  rw[rM]at P;have zt:0<=q*v2/\q*v2<18446744073709551616:=by refine⟨jB G G,?_⟩;have:q*v2<=4294967297*4294967295:=xO G G G D;omega
  refine j<|R<|rg 50 J J (λh=>?_)<|λh=>?_
  .have hqB:q>=4294967296:=by simpa using h
   have l:q>=4294967296\/q*v2>r*4294967296+u2:= .inl hqB;refine z J (F J (λ_=>?_)<|λm=>by cases m);have jh:u/val v<q:=by
    rcases l with l|l
    .have:=K.E9;omega
    .exact K.down h2 G l
   have w1:aw .u64 (q-1)=q-1:=wrap_u64 _ G G;have w2:aw .u64 (r+aw .u64 (I v (af<|(Z v:Y)-1) 0))=r+v1:=by rw[x1,wrap_u64 _ G G]
   refine aE<|az<|e J<|e J (hp:=aF)<|e J<|F J (λm=>?_)<|λm=>?_
   .have m:r+v1>=4294967296:=by have m:aw .u64 (r+aw .u64 (I v (af<|(Z v:Y)-1) 0))>=4294967296:=aW m;omega
    rw[gf l,gf m]at P;refine nL<|K2<|ov<|nM<|fJ T8<|wk ⟨sR J,sR J,sR J,sE J ?_,A⟩ ⟨bR J,A⟩;refine bP ?_;rw[<-P];exact w1
   .have m:¬r+v1>=4294967296:=by have m:¬aw .u64 (r+aw .u64 (I v (af<|(Z v:Y)-1) 0))>=4294967296:=bc m;omega
    rw[gf l,y m]at P;refine dc<|fB<|a4 (f,q-1,r+v1) ⟨P,Nj,Nk,Nl,Nm,Nn⟩ (dJ f)<|wk ⟨sR J,sR J,sR J,sR J,sE J ?_,sE J ?_,A⟩ ⟨bR J,A⟩
    .exact bP w1
    .exact bP w2
  .have hqB:¬q>=4294967296:=by have:q<4294967296:=eh;omega
   have w3:aw .u64 (q*aw .u64 (I v (af<|(Z v:Y)-2) 0))=q*v2:=by rw[x2,wrap_u64 _ zt.1 zt.2]
   have w4:aw .u64 ((ji (c8 .u64) (aw .u64<|r*2^(min (af ((32:V):Y))<|c8 .u64))|||ji (c8 .u64) (aw .u64<|I g (a+af ((Z v:Y)-2)) 0)).toNat:Y)=r*4294967296+u2:=by rw[x3,zI r 32 h3 G G,Cb _ _ 32 G (Fk _ _) G G G,show(2:Y)^32=4294967296 from J]
   refine z J (hp:=aF)<|F J (λB=>?_)<|λB=>?_
   .have l:q>=4294967296\/q*v2>r*4294967296+u2:= .inr (by have B:aw .u64 (q*aw .u64 (I v (af<|(Z v:Y)-2) 0))>aw .u64 ((ji (c8 .u64) (aw .u64<|r*2^(min (af ((32:V):Y))<|c8 .u64))|||ji (c8 .u64) (aw .u64<|I g (a+af ((Z v:Y)-2)) 0)).toNat:Y):=aW B;rw[w3,w4]at B;exact B);have jh:u/val v<q:=by
     rcases l with l|l
     .have:=K.E9;omega
     .exact K.down h2 G l
    have w1:aw .u64 (q-1)=q-1:=wrap_u64 _ G G;have w2:aw .u64 (r+aw .u64 (I v (af<|(Z v:Y)-1) 0))=r+v1:=by rw[x1,wrap_u64 _ G G]
    refine aE<|az<|e J<|e J (hp:=aF)<|e J<|F J (λm=>?_)<|λm=>?_
    .have m:r+v1>=4294967296:=by have m:aw .u64 (r+aw .u64 (I v (af<|(Z v:Y)-1) 0))>=4294967296:=aW m;omega
     rw[gf l,gf m]at P;refine nL<|K2<|ov<|nM<|fJ T8<|wk ⟨sR J,sR J,sR J,sE J ?_,A⟩ ⟨bR J,A⟩;refine bP ?_;rw[<-P];exact w1
    .have m:¬r+v1>=4294967296:=by have m:¬aw .u64 (r+aw .u64 (I v (af<|(Z v:Y)-1) 0))>=4294967296:=bc m;omega
     rw[gf l,y m]at P;refine dc<|fB<|a4 (f,q-1,r+v1) ⟨P,Nj,Nk,Nl,Nm,Nn⟩ (dJ f)<|wk ⟨sR J,sR J,sR J,sR J,sE J ?_,sE J ?_,A⟩ ⟨bR J,A⟩
     .exact bP w1
     .exact bP w2
   .have l:¬(q>=4294967296\/q*v2>r*4294967296+u2):=by have B:¬aw .u64 (q*aw .u64 (I v (af<|(Z v:Y)-2) 0))>aw .u64 ((ji (c8 .u64) (aw .u64<|r*2^(min (af ((32:V):Y))<|c8 .u64))|||ji (c8 .u64) (aw .u64<|I g (a+af ((Z v:Y)-2)) 0)).toNat:Y):=bc B;rw[w3,w4]at B;omega
    rw[y l]at P;subst P;exact bt<|fJ T8 aV
def xT m:ao c 188 [S al (r m)] (S al<|r m):=by have h:=wb<|r m;rwa[Tp]at h
def anP{k n}(w:Z (r k)=n+2){x s:V}(ex:(x:Y)=I (r k) (n+1) 0)(B:2147483648<=x*2^s)(f:x*2^s<4294967296)(H:s<=31):
  ((k*2^s:V):Y)<4294967296^(n+2)/\Z (r<|k*2^s)=n+2/\2147483648<=I (r<|k*2^s) (n+1) 0:=by
 have i:0<2^s:=km D
 have l:(x+1)*2^s<=4294967296:=by
  have e:4294967296=2^(32-s)*2^s:=by rw[<-ku,(G:32-s+s=32)]
  have:x<2^(32-s):=by rw[e]at f;exact Nat.lt_of_mul_lt_mul_right f
  rw[e];exact et _ this
 generalize o:2^s=a at*
 have g:=ko (r k)<|n+1
 rw[mH _ _ (G:Z (r k)<=n+1+1),eJ,<-ex]at g
 have p:=nf<|jm (dW k)<|n+1
 rw[(bX:Z (M (n+1)<|r k)=n+1)]at p
 have C:=lW<|jm (dW k)<|n+1
 have K:=jJ<|n+1
 generalize val (M (n+1)<|r k)=t at*
 have b:((x:Y)+1)*(a:Y)<=4294967296:=by have:(((x+1)*a:V):Y)<=((4294967296:V):Y):=G;rw[fC,xM]at this;exact this
 have h:((k*a:V):Y)<4294967296^(n+2):=by
  rw[fC,o0,g];have L:(t+(x:Y)*4294967296^(n+1))*a<(((x:Y)+1)*4294967296^(n+1))*a:=ID (by rw[nU,kX];omega) G;have P:((x:Y)+1)*4294967296^(n+1)*a=4294967296^(n+1)*(((x:Y)+1)*a):=by generalize (4294967296:Y)^(n+1)=y;grind
  have Q:4294967296^(n+1)*(((x:Y)+1)*a)<=4294967296^(n+1)*4294967296:=kU b G;omega
 have u:Z (r<|k*a)=n+2:=by have T:Z (r<|k*a)<=n+2:=B0 h;have W:=sZ (m:=k) (k:=k*a)<|TV _ i;omega
 refine⟨h,u,?_⟩
 have d:=ko (r<|k*a)<|n+1
 rw[mH _ _ (G:Z (r<|k*a)<=n+1+1),eJ]at d
 have v:=nf<|jm (dW<|k*a)<|n+1
 rw[(bX:Z (M (n+1)<|r<|k*a)=n+1)]at v
 generalize I (r<|k*a) (n+1) 0=c1 at*
 generalize val (M (n+1)<|r<|k*a)=X at*
 by_cases e:2147483648<=c1
 .exact e
 .exfalso;have c:(c1+1)*4294967296^(n+1)<=(x:Y)*a*4294967296^(n+1):=hZ G G;have j:(x:Y)*4294967296^(n+1)*a<=(k:Y)*a:=hZ G G;have q:(x:Y)*4294967296^(n+1)*a=(x:Y)*a*4294967296^(n+1):=by generalize (4294967296:Y)^(n+1)=y;grind
  have z:(c1+1)*4294967296^(n+1)=c1*4294967296^(n+1)+4294967296^(n+1):=Ix;rw[fC]at d;omega
def anQ m k n(d:Z (r k)=n+2)(mj:k<=m)(lm:Z (r m)<=1099511627776):ao c 190 [S al (r m),S al<|r k] (.t [(ah,[.S al (r<|m/k)]),(ah,[.S al (r<|m%k)])]):=by
 refine aL abU ?_;have Hz:=de (dW k)<|n+1;have BJ:I (r k) (n+1) 0≠0:=by
  rcases wa k with f|f
  .rw[f]at d;simp at d
  .rw[d]at f;exact f
 obtain⟨x,ex⟩:∃x:V,(x:Y)=I (r k) (n+1) 0:=⟨af<|I (r k) (n+1) 0,vP Hz.1⟩;let ⟨s,hlz,L,x1,x2⟩:=ans x G G;let ⟨f5,f6,f7⟩:=anP d ex x1 x2 L;have hD:0<2^s:=km D;have hD2:2^s<=2^31:=eZ D L;have w:(2:Y)^s=((2^s:V):Y):=ax;have m5:0<k:=by
  rcases qD k with f|f
  .subst f;rw[EZ]at d;simp at d
  .exact f
 have hla:n+2<=Z (r m):=by rw[<-d];exact sZ mj
 obtain⟨a,hM⟩:∃a,Z (r m)=a+(n+2):=⟨Z (r m)-(n+2),G⟩;have TW:((m*2^s:V):Y)<4294967296^(a+(n+2)+1):=by have H:=uE (n:=m);rw[hM]at H;rw[o0,fC];have:=jJ<|a+(n+2);have h2:(m:Y)*((2^s:V):Y)<=(m:Y)*4294967296:=kU G G;omega
 have P:¬dK (m:Y) (k:Y)<0:=by unfold dK;rw[y G];split<;>decide
 have T:=abP (r m) s (dW m) L lm;have W:=(abP (r k) s (dW k) L G).fs;have xB:=uE (n:=k);rw[d]at xB;rw[eJ,d,w,<-fC]at W;rw[eJ,w,<-fC,hM]at T;have hVt:M (n+2) (bT (n+2+1) ((k*2^s:V):Y))=r (k*2^s):=by have:=abA<|dW<|k*2^s;rw[f6,eJ]at this;rw[Fb,List.take_left'<|s0 _ _,this]
 refine e J<|R<|rc J J (xT m)<|rc J J (xT k)<|z J ?_;refine j<|bH J J (ND m k) J<|F J (λh=>absurd (aW h) P)<|λ_=>aE ?_;refine j<|e J<|F J (λh=>?_)<|λ_=>aE ?_
 .exfalso;have h:(Z (r k):Y)=1:=eq_of_beq h;omega
 have a2:af ((Z (r k):Y)-1)=n+1:=G;have q:ao c 223 [cW (I (r k) (af<|(Z (r k):Y)-1) 0)] (O s):=by rw[a2,<-ex];exact hlz
 refine e J<|R<|rc J J q<|z J (hp:=aF) ?_;refine R<|BT J J T<|z J ?_;refine R<|rc J J W<|z J (hp:=by simp only[Pr.an,Pr.h,num,fX,true_and,and_true];rw[s0];omega) ?_;refine R<|rm al (a+1) J J J J J J (mE .u32) G ?_ ?_<|z J ?_
 .show _*4<=_;omega
 .show _*1<=_;omega
 generalize B:bT (a+(n+2)+1) ((m*2^s:V):Y)=l;have u:val l=((m*2^s:V):Y):=by rw[<-B,IC,gX G TW]
 have v:bW l:=by rw[<-B];exact IB _ _
 have N:Z l=a+(n+2)+1:=by rw[<-B,s0]
 have zE:(0:Y)<((k*2^s:V):Y):=by have:0<k*2^s:=zH m5 hD;omega
 have zn:uJ ((m*2^s:V):Y) ((k*2^s:V):Y) (n+2) a (a+1,l,bl (a+1) 0):=by
  refine⟨aT _,N,v,?_,ax,rI _,λi hi=>?_,?_⟩
  .show val (ay (a+1) l)<_;have H:=zD l (a+1) G;have h2:=lW<|jm v<|a+1;have hp:=jJ<|a+1;by_cases f:val (ay (a+1) l)<((k*2^s:V):Y)
   .exact f
   .exfalso;have h3:4294967296^(a+1)*((k*2^s:V):Y)<=4294967296^(a+1)*val (ay (a+1) l):=kU G G;have h4:=M1 (dW k) (wa k) (by intro f;rw[f]at d;simp at d);rw[eJ,d,(G:n+2-1=n+1)]at h4;have h5:=uE (n:=m);rw[hM,(G:a+(n+2)=a+1+(n+1)),Int.pow_add]at h5;have h6:4294967296^(a+1)*4294967296^(n+1)*((2^s:V):Y)<=4294967296^(a+1)*((k*2^s:V):Y):=by rw[fC,jo];exact kU (hZ h4 G) G
    have h7:(m:Y)*((2^s:V):Y)<4294967296^(a+1)*4294967296^(n+1)*((2^s:V):Y):=ID h5 G;rw[u,fC m]at H;omega
  .show I (bl (a+1) (0:Y)) i 0=0;rw[aN,lY];split<;>rfl
  .show _=val l+_*val (bl (a+1) 0);rw[M0,u];omega
 refine j<|e J ?_;refine az<|bq (α:=V×E Y×E Y) (λx=>⟨[(8,O ((n+2:V):Y)),(9,O s),(10,.c<|.X 6002000),(11,S al<|r<|k*2^s),(12,.c<|.X 8005000),(13,O<|(x.1:Y)-1)],[(6002000,.vec 142 al x.2.1),(8005000,.vec 142 al x.2.2)],10,[]⟩) (uJ ((m*2^s:V):Y) ((k*2^s:V):Y) (n+2) a) (λx=>x.1) (a+1,l,bl (a+1) 0) zn (wk ⟨sE J ?_,sR J,sR J,sE J ?_,sR J,sE J ?_,A⟩<|ow J) ?_
 .exact jb G
 .refine bh (λfw=>AV.c<|C.S al fw) ?_;rw[<-hVt];simp only[d,cr,qh]
 .exact jb G
 rintro⟨K,U,Q⟩ o;have m6:Z U=a+(n+2)+1:=o.ul;have p:bW U:=o.ur;have Nv:Z Q=a+1:=o.ql;have LG:K<=a+1:=o.k;refine j<|e J ?_;refine F J (λh=>?_)<|λh=>?_
 .have h:(K:Y)-1>=0:=aW h;obtain⟨b,rfl⟩:∃b,K=b+1:=⟨K-1,G⟩;have ej:((b+1:V):Y)-1=(b:Y):=G;rw[ej];have g:=o.next zE f5;let ⟨_,xE⟩:=o.TU f5;have hqw:=anD U (r<|k*2^s) b n p (dW _) f6 G G f7 (by rw[eJ];exact xE);rw[eJ]at hqw;rw[show n+2+1=n+3 from J]at g xE;have hu0:=lW<|jm (zv p b)<|n+3;refine aE<|j<|az ?_;refine cK<|rw_ b (b+(n+3)) J J J J J J G G (G:b+(n+3)<=Z U) ?_;rw[(G:b+(n+3)-b=n+3)];refine zq 6002000 J hqw J J<|z J ?_;refine bL<|rt J<|a4 (b,cZ U b<|bT (n+3)<|val ((ay b U).take<|n+3)%((k*2^s:V):Y),Q.set b<|val ((ay b U).take<|n+3)/((k*2^s:V):Y)) g (dJ b)<|wk (bM J) ⟨bR J,bE J ?_,A⟩;refine bh (aD.vec 142 al) ?_;show Q.set (af (b:Y)) _=Q.set b _;rw[cr]
 .have h:¬(K:Y)-1>=0:=bc h;have hc:K=0:=G;subst hc;let ⟨e1,e2⟩:=o.fin;have q1:aM Q=r (m/k):=by
   rw[oV o.qr];show r (af<|val Q)=_;rw[e1];have:((m*2^s:V):Y)/((k*2^s:V):Y)=((m/k:V):Y):=by rw[<-xN,Nat.mul_div_mul_right _ _ hD]
   rw[this,cr]
  have hub:val U<((k*2^s:V):Y):=o.ub;have hut:val (M (n+2) U)=val U:=by have H:=zD U (n+2) G;rw[abH p (n+2) G G,gY,rK]at H;exact H.symm
  have xQ:=anx (M (n+2) U) s (jm p _) L IF;have q2:r (af<|val (M (n+2) U)/2^s)=r (m%k):=by
   rw[hut,e2,w];have:((m*2^s:V):Y)%((k*2^s:V):Y)/((2^s:V):Y)=((m%k:V):Y):=by rw[<-IE,Nat.mul_mod_mul_right,<-xN,T1 _ hD]
   rw[this,cr]
  rw[q2]at xQ;have ht:=wb Q;rw[q1]at ht;refine bt<|aK<|da 6002000 J J J<|da 8005000 J J J ?_;refine R<|rc J J ht<|rc J J xQ (hp:=aF)<|z J<|bY J ?_;rfl
def abW m k(i:k≠0)(f:Z (r m)<=1099511627776):ao c 190 [S al (r m),S al<|r k] (.t [(ah,[.S al (r<|m/k)]),(ah,[.S al (r<|m%k)])]):=by
 by_cases a:m<k
 .refine aL abU ?_;refine e J<|R<|rc J J (xT m)<|rc J J (xT k)<|z J ?_;refine j (bH J J (ND m k) J<|F J (λ_=>?_)<|λh=>?_)
  .refine bH J J (Nd (r m) f) J<|bV<|cQ<|iJ cv J ?_;rw[B7 a,oY a];exact bg.t2<|bg.nil al
  .exfalso;have h:¬dK (m:Y) (k:Y)<0:=bc h;unfold dK at h;rw[q G]at h;omega
 .by_cases b:k<4294967296
  .refine aL abU ?_;have u:r k=[(k:Y)]:=by rw[xI i,B7 b,EZ,oY b]
   have d:¬dK (m:Y) (k:Y)<0:=by unfold dK;rw[y G];split<;>decide
   have l:=ant (r m) (k:Y) (dW m) G G f;rw[eJ,<-xN,<-IE,cr]at l;have o:=ND m k;have p:=xT k;rw[u]at o p⊢;refine e J<|R<|rc J J (xT m)<|rc J J p<|z J ?_;refine j<|bH J J o J<|F J (λh=>absurd (aW h) d)<|λ_=>aE ?_;have g:ao c 222 [S al (r m),.c (num .u64 (k:Y)).1] (.t [(ah,[.S al (r<|m/k)]),(ah,[.I .u64 ((m%k:V):Y)])]):=by rw[show(AV.c (num .u64 (k:Y)).1)=cU (k:Y)from bP<|wrap_u64 _ G G];exact l
   have s:=fN m<|rL i;refine j<|e J<|F J (λ_=>?_)<|λh=>fR;refine bH J J g J ?_;refine bH J J (Nb (m%k) G) J<|bV<|cQ<|atR J
  .have x:2<=Z (r k):=by
    by_cases v:2<=Z (r k)
    .exact v
    .exfalso;have B:=uE (n:=k);have w:=uF (m:=Z<|r k) (n:=1) G;rw[Int.pow_one]at w;omega
   exact anQ m k (Z (r k)-2) G G f
def abX a b(n:b≠0)(m:Sm a)(i:Sm b):ao c 158 [aZ a,aZ b] (.t [(ae,av .z<|a/b),(ae,av .z<|a%b),(ah,[.I .i64 0])]):=by
 refine aL Tryz.func158 ?_;have d:aA b≠0:=G;refine e J<|j<|bH J J (xT<|aA b) J ?_;refine F J (λk=>?_)<|λk=>?_
 .exfalso;have k:(Z (r<|aA b):Y)=0:=eq_of_beq k;have:=oX.2 d;omega
 .refine aE<|bH J J (abW _ _ d m) J<|j<|R ?_;refine rg 26 J J (λh3=>?_) (λh3=>?_)
  .have h3:a<0:=by simpa[cj]using h3
   refine z J<|F J (λh4=>?_)<|λh4=>?_
   .have h4:aA a%aA b≠0:=by have h4:(Z (r<|aA a%aA b):Y)>0:=Nx;exact oX.1 G
    let ⟨e1,f⟩:=abm (rL d) h3 h4;have hz:cj a=ae:=Fi;let ⟨g,h⟩:=E7 a b (aA a/aA b+1) (aA b-aA a%aA b) Fj f;have o:aA a%aA b<aA b:=fN _<|rL d;refine R<|rl al [_] J J (rc J J (abr (aA a/aA b) 1 ?_ D)<|z J<|cK<|rc J J (T7 (aA b) _ G i)<|z J<|aK<|R ?_)
    .exact b6 (sZ<|Nat.div_le_self _ _) m
    refine rc J J (oZ _ _)<|rc J J (oZ _ _)<|z J<|bY J ?_;rw[g,h];rfl
   .have h4:aA a%aA b=0:=by have h4:¬(Z (r<|aA a%aA b):Y)>0:=Nx;exact Decidable.byContradiction λl=>by have:=oX.2 l;omega
    let ⟨e1,f⟩:=abl (rL d) h3 h4;have hz:cj a=ae:=Fi;let ⟨g,h⟩:=E7 a b (aA a/aA b) (aA a%aA b) Fj (by rw[f,h4];rfl);refine aE<|R<|rc J J (oZ _ _)<|rc J J (oZ _ _)<|z J<|bY J ?_;rw[g,h];rfl
  .have h3:¬a<0:=by simpa[cj]using h3
   refine z J<|F J (λh4=>by simp at h4)<|λh4=>?_;let ⟨e1,f⟩:=abk (rL d) h3;have hz:cj a=ah:=Fi;let ⟨g,h⟩:=E7 a b (aA a/aA b) (aA a%aA b) Fj f;refine aE<|R<|rc J J (oZ _ _)<|rc J J (oZ _ _)<|z J<|bY J ?_;rw[g,h];rfl
def abY m(l:m<18446744073709551616):ao c 189 [S al (r m)] (cU m):=by
 refine aL Tryz.func189 ?_;have o:=Iv l;refine e J<|e J<|j<|e J ?_;refine az<|bq (α:=V) (λi=>⟨[(0,S al<|r m),(3,cU<|val<|M i<|r m),(6,O<|Z<|r m),(7,O i)],[],4,[]⟩) (λi=>i<=Z (r m)) (λi=>Z (r m)-i) 0 (bf _) aV ?_;intro i p;have g:=de (dW m) i;have b:=ko (r m) i;have k:=nf<|jm (dW m) i;have n:=lW<|jm (dW m) i;refine e J<|j ?_;refine F J (λh=>?_)<|λh=>?_
 .have h:i<Z (r m):=by have h:(i:Y)<(Z (r m):Y):=aW h;omega
  have d:Z (M i<|r m)=i:=bX;rw[d]at k;refine aE<|j<|az<|e J<|rt J (hp:=aF)<|bL<|rt J<|a4 (i+1) h (G:Z (r m)-(i+1)<Z (r m)-i)<|wk ⟨sR J,sE J ?_,sR J,sR J,A⟩ A;refine bP ?_;have a:i=0\/i=1:=G;rcases a with f|f
  .subst f;show aw .u64 ((ji (c8 .u64) (val<|M 0<|r m)|||ji (c8 .u64) (aw .u64<|aw .u64 (I (r m) 0 0)*2^(min (af<|((0:V):Y))<|c8 .u64))).toNat:Y)=val (M (0+1)<|r m);rw[b,wrap_u64 (I (r m) 0 0) G G,zI _ 0 g.1 G G];have:=Cb (I (r m) 0 0*2^0) 0 0 G (by simp[Int.emod_one]) D D G;rw[Fl];simp only[val];rw[BitVec.or_comm,this];simp
  .subst f;show aw .u64 ((ji (c8 .u64) (val<|M 1<|r m)|||ji (c8 .u64) (aw .u64<|aw .u64 (I (r m) 1 0)*2^(min (af<|((32:V):Y))<|c8 .u64))).toNat:Y)=val (M (1+1)<|r m);rw[Int.pow_one]at k b;rw[b,wrap_u64 (I (r m) 1 0) G G,zI _ 32 g.1 G G];have:=Cb (I (r m) 1 0*2^32) (val<|M 1<|r m) 32 G (Fk _ _) n G G;rw[BitVec.or_comm,this,show(2:Y)^32=4294967296 from J];omega
 .have h:i=Z (r m):=by have h:¬(i:Y)<(Z (r m):Y):=bc h;omega
  subst h;refine bt<|aK<|e J<|bY J<|bP ?_;rw[gQ,eJ]
def rN:V->V->V->V->V->V
 |0,b,_,_,_=>b
 |f+1,b,a,n,p=>if n=0 then b else rN f (if n%2=1 then b*a%p else b) (a*a%p) (n/2) p
def uM(a n p:V):V:=rN 64 (1%p) (a%p) n p
def jc(a p:V):V:=uM a (p-2) p
def abZ:∀(f b a n p:V),0<p->b<p->rN f b a n p<p
 |0,b,_,_,_,_,h=>h
 |f+1,b,a,n,p,hp,h=>by
  unfold rN;split
  .exact h
  .refine abZ f _ _ _ _ hp ?_;split
   .exact fN _ hp
   .exact h
def Ua a n p(b:0<p):uM a n p<p:=abZ _ _ _ _ _ b<|fN _ b
def mI(x a:V):(x:Y).tmod (a:Y)=((x%a:V):Y):=by rw[lX G];omega
def Fo(x a p:V)(d:x<p)(f:a<p)(b:p<=4294967296):(aw .u64<|(x:Y)*(a:Y)).tmod (p:Y)=((x*a%p:V):Y):=by have h:x*a<18446744073709551616:=fO (NF d f)<|b6 (l0 b b) D;rw[<-fC,wrap_u64 _ G G,mI]
def Ce(x:V)(a:x<18446744073709551616):(aw .u64<|(x:Y).tdiv 2)=((x/2:V):Y):=by
 have e:(x:Y).tdiv 2=((x/2:V):Y):=by rw[uG G];omega
 rw[e,wrap_u64 _ G G]
def ab0(a n p:V)(H:a<18446744073709551616)(w:n<18446744073709551616)(d:0<p)(t:p<=4294967296):ao c 301 [cU a,cU n,cU p] (cU<|uM a n p):=by
 refine aL Tryz.func301 ?_;refine e J<|j<|e J ?_;refine F J (λh=>?_)<|λh=>?_
 .exfalso;have h:(p:Y)=0:=eh;omega
 .have B:(p:Y)≠0:=by omega
  refine aE<|e J<|j<|e J<|az<|bq (α:=V×V×V×V) (λx=>⟨[(0,cU x.2.2.1),(1,cU x.2.2.2),(2,cU p),(7,cU x.2.1)],[],4,[]⟩) (λx=>rN x.1 x.2.1 x.2.2.1 x.2.2.2 p=uM a n p/\x.2.2.2<2^x.1/\x.2.1<p/\x.2.2.1<p/\x.2.2.2<18446744073709551616) (λx=>x.2.2.2) (64,1%p,a%p,n) ⟨J,w,fN _ d,fN _ d,w⟩ (wk ⟨sE J ?_,sR J,sR J,sE J ?_,A⟩ A) ?_
  .exact bP<|mI a p
  .exact bP<|mI 1 p
  .rintro⟨f,r,b,m⟩ ⟨i,hm,u,l,k⟩;simp only at i hm u l k;refine j<|e J ?_;refine F J (λo=>?_) (λo=>?_)
   .have o:(m:Y)>0:=by simpa using o
    cases f with
    |zero=>rw[oC]at hm;omega
    |succ f=>
     have s:m/2<2^f:=by rw[fQ]at hm;omega
     rw[rN,y G]at i
     refine aE<|j<|az<|j<|e J ?_
     refine F J (λg=>?_)<|λg=>?_
     .have g:m%2=1:=by have g:=eq_of_beq g;have C:(m:Y).tmod 2=((m%2:V):Y):=mI m 2;have v:(m:Y).tmod 2=1:=g;omega
      rw[q g]at i;refine rt J<|aK<|rt J<|bL<|rt J<|a4 (f,r*b%p,b*b%p,m/2) ⟨i,s,fN _ d,fN _ d,NG⟩ NH<|wk ⟨sE J ?_,sE J ?_,sR J,sE J ?_,A⟩ A
      .exact bP<|Fo b b p l l t
      .exact bP<|Ce m k
      .exact bP<|Fo r b p u l t
     .have g:¬m%2=1:=by intro C;have K:(m:Y).tmod 2=((m%2:V):Y):=mI m 2;have v:((m:Y).tmod 2==1)=ah:=g;rw[(G:(m:Y).tmod 2=1)]at v;cases v
      rw[y g]at i;refine aE<|rt J<|bL<|rt J<|a4 (f,r,b*b%p,m/2) ⟨i,s,u,fN _ d,NG⟩ NH<|wk ⟨sE J ?_,sE J ?_,sR J,sR J,A⟩ A
      .exact bP<|Fo b b p l l t
      .exact bP<|Ce m k
   .have o:¬(m:Y)>0:=by simpa using o
    have:m=0:=G;subst this;refine bt<|aK<|e J<|bY J ?_;rw[<-i];cases f with
    |zero=>rfl
    |succ f=>rw[rN,q J]
def anU(a p:V)(b:a<18446744073709551616)(k:a%p≠0)(d:2<=p)(f:p<=4294967296):ao c 291 [cU a,cU p] (.t [(ah,[.I .u64 (jc a p)]),(ah,[.I .i64 0])]):=by
 refine aL Tryz.func291 ?_;have g:(p:Y)≠0:=G;refine e J<|j<|R ?_;refine rg 8 J J (λh=>?_)<|λh=>?_
 .exfalso;have h:(p:Y)<2:=eh;omega
 .refine z J (F J (λh2=>?_)<|λh2=>?_)
  .exfalso;have h2:(a:Y).tmod (p:Y)=0:=p';rw[mI]at h2;omega
  .have i:ao c 301 [cU a,.c (num .u64<|(p:Y)-2).1,cU p] (cU<|uM a (p-2) p):=by rw[show(AV.c (num .u64<|(p:Y)-2).1)=cU ((p-2:V):Y)from bP<|(wrap_u64 _ G G).trans G];exact ab0 a (p-2) p b G G f
   exact aE<|bH J J i J<|c7 J
def aP(xs:E Y)(p:Y):AV:= .a [.S ar xs,.I .u64 p]
def ab1{a}{k}(b:fZ a k=fZ a (Z a))(d:k=0\/I a (k-1) 0≠0):M k a=aM a:=by
 unfold aM;rw[<-b];cases k with
 |zero=>rfl
 |succ k=>
  rcases d with d|d
  .omega
  .simp only[eE]at d;simp only[fZ,d,bQ]
def ab2 ws p(g:Z ws<=1000000):ao c 263 [aP ws p] (aP (aM ws) p):=by
 refine aL Tryz.func263 ?_;refine e J<|e J ?_;refine j<|az<|bq (α:=V) (λk=>⟨[(1,.c<|.P 0 0),(2,.c<|.P 1000 0),(3,O k)],[(0,.box 221 0 [.S ar ws,.I .u64 p]),(1000,.box 221 0 [.V (.slice none 0 0),.I .u64 0])],2,[]⟩) (λk=>k<=Z ws/\fZ ws k=fZ ws (Z ws)) (λk=>k) (Z ws) ⟨aT _,J⟩ (wk (bM J) ⟨bE J J,bE J J,A⟩) ?_;rintro k ⟨i,a⟩;refine j<|R ?_;refine rg 9 J J (λh=>?_)<|λh=>?_
 .simp at h;refine z J (F J (λb=>?_)<|λb=>?_)
  .refine aE (az<|rt J<|fB<|a4 (k-1) ⟨G,?_⟩ (G:k-1<k)<|wk ⟨sR J,sR J,sE J ?_,A⟩ ⟨bE J J,bE J J,A⟩)
   .rw[<-a];obtain⟨d,rfl⟩:∃d,k=d+1:=⟨k-1,G⟩;have f:I ws d 0=0:=by have:af (((d+1:V):Y)-1)=d:=G;simpa[this]using b
    simp only[eE,fZ,f,cd]
   .congr 2;omega
  .refine bt<|aK<|e J<|bY J ?_;refine bh (aP · p) ?_;rw[<-ab1 a (.inr ?_)]
   .simp
   .have:af ((k:Y)-1)=k-1:=by omega
    simpa[this]using b
 .simp at h;subst h;refine z J<|F J (λb=>by simp at b)<|λ_=>?_;refine bt<|aK<|e J<|bY J ?_;exact bh (aP · p)<|ab1 a<|.inl J
def rp(p:Y)(a:E Y):Prop:=∀i,0<=I a i 0/\I a i 0<p
def NI{p}{a}(h:rp p a) i{x}(b:0<=x)(d:x<p):rp p (a.set i x):=by
 intro j;have:=h j;simp only[aN,Tq]at this⊢;split
 .split
  .exact⟨b,d⟩
  .rename_i f g;simp only[Option.getD_none];exact⟨hY _,G⟩
 .exact this
def Ub{p}(a:0<p) n:rp p (bl n 0):=by
 intro j;simp only[aN,lY];split
 .exact⟨hY _,a⟩
 .exact⟨hY _,a⟩
def rO(a b:E Y)(p:Y)(i:V):V->E Y->E Y
 |0,f=>f
 |d+1,f=>(rO a b p i d f).set (i+d)<|(I (rO a b p i d f) (i+d) 0+I a i 0*I b d 0)%p
def mJ(a b:E Y)(p:Y):V->E Y
 |0=>bl (Z a+Z b-1) 0
 |i+1=>rO a b p i (Z b)<|mJ a b p i
def IG(a b:E Y)(p:Y)(i:V)(d:E Y):∀f,Z (rO a b p i f d)=Z d
 |0=>rfl
 |f+1=>by rw[rO,nG,IG a b p i d f]
def II(a b:E Y)(p:Y):∀i,Z (mJ a b p i)=Z a+Z b-1
 |0=>by simp[mJ]
 |i+1=>by rw[mJ,IG,II a b p i]
def NJ{a b:E Y}{p:Y}(f:0<p)(i:V){g:E Y}(h:rp p g):∀d,rp p (rO a b p i d g)
 |0=>h
 |d+1=>NI (NJ f i h d) _ (iP _ G)<|iR _ f
def IJ(a b:E Y){p:Y}(d:0<p):∀i,rp p (mJ a b p i)
 |0=>Ub d _
 |i+1=>NJ d i (IJ a b d i) _
def cL(a b:E Y)(p:Y):E Y:=if a=[]\/b=[]then[]else aM (mJ a b p<|Z a)
def ab3 x a b p(h:0<=x/\x<p)(f:0<=a/\a<p)(d:0<=b/\b<p)(i:p<=2147483648):(aw .u64<|x+aw .u64 (a*b)).tmod p=(x+a*b)%p:=by have g:0<=a*b:=jB f.1 d.1;have k:a*b<=2147483648*2147483648:=xO G G d.1 G;rw[wrap_u64 (a*b) g G,wrap_u64 _ G G,lX G]
def bg.trans{x a b}(h:bg x a)(k:bg a b):bg x b:=⟨λg v e=>k.1 g v<|h.1 g v e,λd e=>h.2 d<|k.2 d e⟩
def bg.a2{x f i}(h:bg (.c x) (.c f)):bg (.a [x,i]) (.a [f,i]):=by
 refine⟨?_,?_⟩
 .rintro g v ⟨vs,rfl,v1,r,rfl,k,d⟩;exact⟨_,J,v1,r,J,h.1 g v1 k,d⟩
 .intro l b;have d:=h.2 l;simp only[AV.ak,cp,ik,be]at b d⊢;exact b.elim (λh=> .inl<|d h) .inr
def anV a b p(B:Z a<=1000)(H:Z b<=1000)(k:0<p)(o:p<=2147483648)(s:rp p a)(t:rp p b):ao c 292 [aP a p,aP b p] (aP (cL a b p) p):=by
 refine aL Tryz.func292 ?_;refine e J<|dj<|R ?_;have l:a=[]\/b=[]->aP [] p=aP (cL a b p) p:=λh=>by rw[cL,q h]
 refine rg 12 J J (λh=>?_)<|λh=>?_
 .have h:a=[]:=by simpa using h
  refine z J (F J (λd=>?_)<|λd=>by simp at d);exact e J<|bV<|cQ<|iJ cv J<|bg.trans (bg.a2<|bg.nil ar)<|bg.of_eq<|l<|.inl h
 .have h:a≠[]:=by simpa using h
  refine z J<|F J (λd=>?_)<|λd=>?_
  .have d:b=[]:=by simpa using d
   exact e J<|bV<|cQ<|iJ cv J<|bg.trans (bg.a2<|bg.nil ar)<|bg.of_eq<|l<|.inr d
  .have d:b≠[]:=by simpa using d
   have C:=cR.2 h;have K:=cR.2 d;refine aE<|R ?_;refine rm ar (Z a+Z b-1) J J J J J J (mE .u64) G ?_ ?_ ?_
   .show _*8<=_;omega
   .show _*1<=_;omega
   refine z J<|dj<|e J ?_;refine az<|bq (α:=V) (λi=>⟨[(2,.c<|.P 0 0),(3,.c<|.P 1000 0),(4,.c<|.P 2000 0),(5,.c<|.X 2008000),(32,O<|Z a),(33,O i)],[(0,.box 221 0 [.S ar a,.I .u64 p]),(1000,.box 221 0 [.S ar b,.I .u64 p]),(2000,.box 221 0 [.V (.slice none 0 0),.I .u64 0]),(2008000,.vec 150 ar<|mJ a b p i)],4,[]⟩) (λi=>i<=Z a) (λi=>Z a-i) 0 (bf _) (wk (bM J) ⟨bE J J,bE J J,bE J J,bE J J,A⟩) ?_;intro i L;have u:=II a b p i;refine e J<|dj ?_;refine F J (λf=>?_)<|λf=>?_
   .have f:i<Z a:=by simpa using f
    refine aE<|dj<|az<|e J<|e J ?_;refine az<|bq (α:=V) (λj=>⟨[(2,.c<|.P 0 0),(3,.c<|.P 1000 0),(4,.c<|.P 2000 0),(5,.c<|.X 2008000),(6,O i),(32,O<|Z a),(33,O i),(38,O<|Z b),(39,O j)],[(0,.box 221 0 [.S ar a,.I .u64 p]),(1000,.box 221 0 [.S ar b,.I .u64 p]),(2000,.box 221 0 [.V (.slice none 0 0),.I .u64 0]),(2008000,.vec 150 ar<|rO a b p i j<|mJ a b p i)],7,[]⟩) (λj=>j<=Z b) (λj=>Z b-j) 0 (bf _) (wk (bM J) ⟨bE J J,bE J J,bE J J,bE J J,A⟩) ?_;intro j Q;have v:=IG a b p i (mJ a b p i) j;refine e J<|dj ?_;refine F J (λg=>?_)<|λg=>?_
    .have g:j<Z b:=by simpa using g
     have w:=s i;have x:=t j;have gr:=NJ k (a:=a) (b:=b) i (IJ a b k i) j<|i+j;have n:af ((i:Y)+(j:Y))=i+j:=G;refine aE<|dj<|az<|e J<|rt J ?_ (hp:=kp);refine bL<|rt J<|a4 (j+1) g Uc<|wk (bM J) ⟨bE J J,bE J J,bE J J,bE J ?_,A⟩;rw[rO,n,<-ab3 _ _ _ p gr w x o];rfl
    .have g:¬j<Z b:=by simpa using g
     have m:j=Z b:=G;subst m;refine bt<|bL<|rt J<|a4 (i+1) f qy<|wk (bM J) ⟨bE J J,bE J J,bE J J,bE J J,A⟩
   .have f:¬i<Z a:=by simpa using f
    have m:i=Z a:=G;subst m;refine bt<|aK<|da 2008000 J J J<|bH J J (ab2 (mJ a b p<|Z a) p G) J<|bY J ?_;rw[cL,y<|λm=>m.elim h d];rfl
def anW(x:Y)(a:E Y)(b:Z a<=1000000):oz c 290 [S ar (x::a)] 150 ar (x::a):=by
 refine Ic Tryz.func290 J J J J D ?_;refine e J<|j<|R<|rx J J A<|z J ?_;refine F J (λh=>by simp at h)<|λh=>?_;refine aE<|R<|gP ar [] J J (ra J J J J J J J J J ?_ ?_<|z J<|bV<|Ib (id:=2002000) cv J J)
 .show(_+(_+1)+(_+(_+1))/4+192)*8<=_;simp only[sH];omega
 .show(_+(_+1))*1<=_;simp only[sH];omega
def anX ws p(a:Z ws<=1000000):ao c 232 [aP ws p] (O<|(Z ws:Y)-1):=by refine aL Tryz.func232 ?_;exact e J<|e J<|c7 J
def uN(b:E Y)(p f:Y)(i:V):V->E Y->E Y
 |0,d=>d
 |a+1,d=>(uN b p f i a d).set (i+a)<|(I (uN b p f i a d) (i+a) 0+(p-f)*I b a 0)%p
def ia(a b:E Y)(p v:Y)(m n:V):V->E Y×E Y
 |0=>(bl m 0,a)
 |k+1=>((ia a b p v m n k).1.set (m-(k+1))<|(ia a b p v m n k).2.getD (m-(k+1)+n) 0*v%p,uN b p ((ia a b p v m n k).2.getD (m-(k+1)+n) 0*v%p) (m-(k+1)) (Z b) (ia a b p v m n k).2)
def NK(b:E Y)(p f:Y)(i:V)(a:E Y):∀d,Z (uN b p f i d a)=Z a
 |0=>rfl
 |d+1=>by rw[uN,nG,NK b p f i a d]
def Ud{b:E Y}{p c:Y}(d:0<p)(i:V){f:E Y}(h:rp p f):∀a,rp p (uN b p c i a f)
 |0=>h
 |a+1=>NI (Ud d i h a) _ (iP _ G)<|iR _ d
def NL(a b:E Y)(p v:Y)(m n:V):∀k,(ia a b p v m n k).1.length=m/\(ia a b p v m n k).2.length=Z a
 |0=>by simp[ia]
 |k+1=>by have:=NL a b p v m n k;simp only[ia,nG,NK];exact this
def Ue{a:E Y}(b:E Y){p:Y}(v:Y)(m n:V)(d:0<p)(f:rp p a):∀k,rp p (ia a b p v m n k).1/\rp p (ia a b p v m n k).2
 |0=>⟨Ub d _,f⟩
 |k+1=>by have h:=Ue b v m n d f k;exact⟨NI h.1 _ (iP _ G)<|iR _ d,Ud d _ h.2 _⟩
def aO(a b:E Y)(p:Y):E Y×E Y:=
 if Z a<=Z b-1 then([],a)
 else(λx=>(x.1,aM<|M (Z b-1) x.2)) (ia a b p (jc (af<|I b (Z b-1) 0) (af p):V) (Z a-(Z b-1)) (Z b-1)<|Z a-(Z b-1))
def anY x a b p(h:0<=x/\x<p)(f:0<=a/\a<=p)(d:0<=b/\b<p)(i:p<=2147483648):(aw .u64<|x+aw .u64 (a*b)).tmod p=(x+a*b)%p:=by have g:0<=a*b:=jB f.1 d.1;have k:a*b<=2147483648*2147483648:=xO G G d.1 G;rw[wrap_u64 (a*b) g G,wrap_u64 _ G G,lX G]
def ab4 a b p(f:0<=a/\a<p)(d:0<=b/\b<p)(h:p<=2147483648):(aw .u64<|a*b).tmod p=a*b%p:=by have g:0<=a*b:=jB f.1 d.1;have i:a*b<=2147483648*2147483648:=xO G G d.1 G;rw[wrap_u64 (a*b) g G,lX G]
def ab5 a p(b:0<=a/\a<p)(f:a≠0)(d:2<=p)(g:p<=2147483648):ao c 291 [cU a,cU p] (.t [(ah,[.I .u64 (jc (af a) (af p):V)]),(ah,[.I .i64 0])]):=by have h:=anU (af a) (af p) G (by rw[oY G];omega) G G;rwa[vP b.1,vP (by omega:0<=p)]at h
def bg.ta{x d f}{i}(h:bg (.c x) (.c d)):bg (.t<|(ae,[x,f])::i) (.t<|(ae,[d,f])::i):=by
 refine⟨?_,?_⟩
 .rintro g v ⟨vs,rfl,v1,r1,rfl,⟨us,rfl,v2,k,rfl,l,b⟩,m⟩;exact⟨_,J,_,_,J,⟨_,J,v2,k,J,h.1 g v2 l,b⟩,m⟩
 .intro n a;have b:=h.2 n;simp only[AV.ak,eG,cp,ik,be]at a b⊢;rcases a with(a|a)|a
  .exact .inl<|.inl<|b a
  .exact .inl<|.inr a
  .exact .inr a
def anZ x a' b p{a}(ea:a=x::a')(la:Z a<=1000)(lb:Z b<=1000)(B:2<=p)(H:p<=2147483648)(ha:rp p a)(hb:rp p b)(L:b≠[])(o:I b (Z b-1) 0≠0):ao c 264 [aP a p,aP b p] (.t [(ae,[.S ar (aO a b p).1,.I .u64 p]),(ae,[.S ar (aO a b p).2,.I .u64 p])]):=by
 refine aL Tryz.func264 ?_;have M:p≠0:=G;have pb:=cR.2 L;have C:oz c 290 [S ar a] 150 ar a:=by rw[ea]at la⊢;exact anW x a' (by simp at la;omega)
 refine e J<|R<|BT J J C<|z J<|bH J J (anX b p G) J<|dj<|e J ?_;refine F J (λh=>?_)<|λh=>?_
 .have h:Z a<=Z b-1:=by have h:(Z a:Y)<=(Z b:Y)-1:=eh;omega
  have g:aO a b p=([],a):=by rw[aO,q h]
  rw[g];refine e J<|bV<|cQ<|iJ cv J ?_;exact bg.ta<|bg.nil ar
 .have h:¬Z a<=Z b-1:=by have h:¬(Z a:Y)<=(Z b:Y)-1:=eh;omega
  obtain⟨n,E⟩:∃n,Z b=n+1:=⟨Z b-1,G⟩;obtain⟨m,N⟩:∃m,Z a=n+m:=⟨Z a-n,G⟩;have g:aO a b p=((ia a b p (jc (af<|I b n 0) (af p):V) m n m).1,aM<|(ia a b p (jc (af<|I b n 0) (af p):V) m n m).2.take n):=by rw[aO,y h,E,N,eE,IK]
  rw[g];rw[E,eE]at o;have U:(Z b:Y)-1=(n:Y):=G;generalize hv:(jc (af<|I b n 0) (af p):V)=v;have K:(0:Y)<=(v:Y)/\(v:Y)<p:=by have:=Ua (af<|I b n 0) (af p-2) (af p) G;unfold jc at hv;omega
  rw[U];have f:=ab5 (I b n 0) p (hb n) o B H;rw[hv]at f;refine aE<|bH J J f J<|R ?_;refine rm ar m J J J J J J (mE .u64) G ?_ ?_ ?_
  .show _*8<=_;omega
  .show _*1<=_;omega
  refine z J<|dj<|e J ?_;refine az<|bq (α:=V) (λk=>⟨[(2,.c<|.P 0 0),(3,.c<|.P 1000 0),(4,.c<|.P 2000 0),(5,.c<|.P 3000 0),(6,.c<|.X 1002000),(7,O n),(8,cU v),(10,.c<|.X 5004000),(11,O<|(m:Y)-1-k)],[(0,.box 221 0 [.S ar a,.I .u64 p]),(1000,.box 221 0 [.S ar b,.I .u64 p]),(2000,.box 221 0 [.V (.slice none 0 0),.I .u64 0]),(3000,.box 221 0 [.V (.slice none 0 0),.I .u64 0]),(1002000,.vec 150 ar (ia a b p v m n k).2),(5004000,.vec 150 ar (ia a b p v m n k).1)],7,[]⟩) (λk=>k<=m) (λk=>m-k) 0 (bf _) (wk ⟨sR J,sR J,sR J,sR J,sR J,sR J,sR J,sR J,sE J ?_,A⟩ ⟨bE J J,bE J J,bE J J,bE J J,bE J J,bE J J,A⟩) ?_
  .exact bh O (by simp only[fY];omega)
  intro k hk;have Q:=NL a b p v m n k;have s:=Ue b v m n G ha k;refine dj<|e J ?_;refine F J (λh3=>?_)<|λh3=>?_
  .have h3:k<m:=by have h3:(m:Y)-1-k>=0:=AR;omega
   obtain⟨i,hi⟩:∃i,m=i+(k+1):=⟨m-(k+1),G⟩;have ei:(m:Y)-1-k=(i:Y):=G;have u:m-(k+1)=i:=G;rw[ei];have T:af ((i:Y)+(n:Y))=i+n:=G;generalize hc:(ia a b p v m n k).2.getD (i+n) 0*v%p=d;have uc:0<=d/\d<p:=by rw[<-hc];exact⟨iP _ G,iR _ G⟩
   have W:=s.2<|i+n;refine aE<|dj<|az<|e J (hp:=kp)<|e J ?_;refine az<|bq (α:=V) (λj=>⟨[(2,.c<|.P 0 0),(3,.c<|.P 1000 0),(4,.c<|.P 2000 0),(5,.c<|.P 3000 0),(6,.c<|.X 1002000),(7,O n),(8,cU v),(10,.c<|.X 5004000),(11,O i),(65,O<|Z b),(66,O j)],[(0,.box 221 0 [.S ar a,.I .u64 p]),(1000,.box 221 0 [.S ar b,.I .u64 p]),(2000,.box 221 0 [.V (.slice none 0 0),.I .u64 0]),(3000,.box 221 0 [.V (.slice none 0 0),.I .u64 0]),(1002000,.vec 150 ar<|uN b p d i j (ia a b p v m n k).2),(5004000,.vec 150 ar<|(ia a b p v m n k).1.set i d)],10,[]⟩) (λj=>j<=Z b) (λj=>Z b-j) 0 (bf _) (wk (bM J) ⟨bE J J,bE J J,bE J J,bE J J,bE J J,bE J ?_,A⟩) ?_
   .rw[<-hc,<-ab4 _ _ p W K H,<-T];rfl
   intro j hj;have hlj:=NK b p d i (ia a b p v m n k).2 j;have r:=Ud (b:=b) (p:=p) (c:=d) G i s.2 j<|i+j;refine e J<|dj ?_;refine F J (λl=>?_)<|λl=>?_
   .have l:j<Z b:=by simpa using l
    have gb:=hb j;have D:af ((i:Y)+(j:Y))=i+j:=G;have w:I ((ia a b p v m n k).1.set i d) i 0=d:=by rw[aN,List.getElem?_set_self G];rfl
    have hll:Z ((ia a b p v m n k).1.set i d)=m:=by rw[nG];exact Q.1
    refine aE<|dj<|az<|e J<|rt J ?_ (hp:=kp);refine bL<|rt J<|a4 (j+1) l Uc<|wk (bM J) ⟨bE J J,bE J J,bE J J,bE J J,bE J ?_,bE J J,A⟩;rw[uN,D,<-anY _ (p-d) _ p r G gb H];have e2:aw .u64 (p-I ((ia a b p v m n k).1.set i d) (af (i:Y)) 0)=p-d:=by rw[cr,w,wrap_u64 _ G G]
    rw[<-e2];rfl
   .have l:¬j<Z b:=by simpa using l
    have g:j=Z b:=G;subst g;refine bt<|bL<|rt J<|a4 (k+1) h3 (G:m-(k+1)<m-k)<|wk ⟨sR J,sR J,sR J,sR J,sR J,sR J,sR J,sR J,sE J ?_,A⟩ ⟨bE J J,bE J J,bE J J,bE J J,bE J ?_,bE J ?_,A⟩
    .exact bh O G
    .rw[ia,u,hc]
    .rw[ia,u,hc]
  .have h3:¬k<m:=by have h3:¬(m:Y)-1-k>=0:=AR;omega
   have g:k=m:=G;subst g;refine bt<|aK<|da 1002000 J J J<|da 5004000 J J J<|bH J J (ab2 ((ia a b p v k n k).2.take n) p IF) J<|c7 J
def sm(f:V->Y):V->Y
 |0=>0
 |k+1=>sm f k+f k
def NM(a B:V->Y)(n:V):∀k,kq a B n k=sm (λi=>a i*B (n-i)) k
 |0=>rfl
 |k+1=>by rw[kq,sm,NM a B n k]
def gG{f g:V->Y}:∀{k:V},(∀i,i<k->f i=g i)->sm f k=sm g k
 |0,_=>rfl
 |k+1,h=>by rw[sm,sm,gG<|λi a=>h i G,h k G]
def qF{f:V->Y}{k}(h:∀i,i<k->f i=0):sm f k=0:=by
 induction k with
 |zero=>rfl
 |succ k a=>rw[sm,a<|λi b=>h i G,h k G];rfl
def NN(f g:V->Y):∀k,sm (λi=>f i+g i) k=sm f k+sm g k
 |0=>rfl
 |k+1=>by simp only[sm,NN f g k];omega
def zL(a:Y)(f:V->Y):∀k,sm (λi=>a*f i) k=a*sm f k
 |0=>by simp[sm]
 |k+1=>by simp only[sm,zL a f k,oA]
def Uf a(f:V->Y) k:sm (λi=>f i*a) k=sm f k*a:=by rw[eW,<-zL];exact gG<|λi _=>eW _ _
def ab7(f:V->Y):∀k,sm f (k+1)=f 0+sm (λi=>f<|i+1) k
 |0=>by simp[sm]
 |k+1=>by rw[sm,ab7 f k,sm];omega
def ab8(f:V->Y):∀k,sm f k=sm (λi=>f<|k-1-i) k
 |0=>rfl
 |k+1=>by rw[sm,ab8 f k,ab7<|λi=>f<|k+1-1-i];have:sm (λi=>f<|k+1-1-(i+1)) k=sm (λi=>f<|k-1-i) k:=gG (λi _=>by congr 1;omega);rw[this,(G:k+1-1-0=k)];omega
def ab9(b:V->V->Y):∀n,sm (λi=>sm (λa=>b i a)<|i+1) n=sm (λa=>sm (λk=>b (a+k) a)<|n-a) n
 |0=>rfl
 |n+1=>by
  rw[sm,ab9 b n];have d:sm (λa=>sm (λk=>b (a+k) a)<|n+1-a) n=sm (λa=>sm (λk=>b (a+k) a) (n-a)+b n a) n:=by refine gG<|λa f=>?_;rw[(G:n+1-a=(n-a)+1),sm,(G:a+(n-a)=n)]
  rw[show sm (λa=>sm (λk=>b (a+k) a)<|n+1-a) (n+1)=sm (λa=>sm (λk=>b (a+k) a)<|n+1-a) n+sm (λk=>b (n+k) n) (n+1-n)from J,d,NN];rw[(G:n+1-n=1),show sm (λa=>b n a) (n+1)=sm (λa=>b n a) n+b n n from J,show sm (λk=>b (n+k) n) 1=0+b (n+0) n from J,jv];have g:sm (λa=>b n a) n=sm (b n) n:=rfl;omega
def PS:Type:=V->Y
namespace PS
instance:Add PS:=⟨λA B i=>A i+B i⟩
instance:Mul PS:=⟨λA B=>conv A B⟩
instance:Neg PS:=⟨λA i=> -(A i)⟩
instance:_root_.Sub PS:=⟨λA B i=>A i-B i⟩
instance:OfNat PS 0:=⟨λ_=>(0:Y)⟩
instance:OfNat PS 1:=⟨λi=>if i=0 then(1:Y)else 0⟩
def K(a:Y):PS:=λi=>if i=0 then a else 0
def X(k:V):PS:=λi=>if i=k then 1 else 0
def ext{a B:PS}(h:∀i,a i=B i):a=B:=funext h
def eo(a B:PS) i:(a+B) i=a i+B i:=rfl
def IL(a:PS) i:(-a) i= -(a i):=rfl
def uO(a B:PS) i:(a-B) i=a i-B i:=rfl
def l3 i:(0:PS) i=0:=rfl
def fD(a B:PS) n:(a*B) n=sm (λi=>a i*B (n-i)) (n+1):=NM a B n<|n+1
def add_comm(a B:PS):a+B=B+a:=ext λi=>wc _ _
def add_assoc(a B C:PS):a+B+C=a+(B+C):=ext λi=>Int.add_assoc _ _ _
def zero_add(a:PS):0+a=a:=ext λi=>Cd _
def add_zero(a:PS):a+0=a:=ext λi=>rK _
def add_neg(a:PS):a+ -a=0:=ext λi=>Int.add_right_neg _
def ab'(a:PS): -a+a=0:=ext λi=>Int.add_left_neg _
def sub_def(a B:PS):a-B=a+ -B:=ext λi=>T3
def neg_zero: -(0:PS)=0:=rfl
def neg_add(a B:PS): -(a+B)= -a+ -B:=ext λi=>Int.neg_add
def mul_comm(a B:PS):a*B=B*a:=by
 refine ext λn=>?_
 rw[fD,fD,ab8];refine gG<|λi b=>?_;rw[eW];congr 1<;>congr 1<;>omega
def mul_add(a B C:PS):a*(B+C)=a*B+a*C:=by
 refine ext λn=>?_
 rw[eo,fD,fD,fD,<-NN];exact gG (λi _=>by rw[eo,oA])
def add_mul(a B C:PS):(a+B)*C=a*C+B*C:=by rw[mul_comm,mul_add,mul_comm C a,mul_comm C B]
def mul_assoc(a B C:PS):a*B*C=a*(B*C):=by
 refine ext λn=>?_
 rw[fD,fD];have b:sm (λi=>(a*B) i*C (n-i)) (n+1)=sm (λi=>sm (λj=>a j*B (i-j)*C (n-i))<|i+1) (n+1):=gG (λi _=>by rw[fD,Uf]);rw[b,ab9<|λi j=>a j*B (i-j)*C (n-i)];refine gG<|λj d=>?_;rw[fD,<-zL,(G:n+1-j=n-j+1)];refine gG<|λk f=>?_;rw[jo,(G:j+k-j=k),(G:n-(j+k)=n-j-k)]
def mul_zero(a:PS):a*0=0:=by
 refine ext λn=>?_
 rw[fD];exact qF (λi _=>by rw[l3,gY])
def zero_mul(a:PS):0*a=0:=by rw[mul_comm,mul_zero]
def mL k a i:(X k*a) i=if k<=i then a (i-k)else 0:=by
 rw[fD];by_cases h:k<=i
 .rw[q h];have e:sm (λj=>X k j*a (i-j)) (i+1)=X k k*a (i-k):=by have:=Na (X k) a i k (i+1) G (λj _ b=>by simp[X,b]);exact(NM (X k) a i<|i+1).symm.trans this
  rw[e];simp[X]
 .rw[y h];exact qF (λj b=>by simp[X,(G:j≠k)])
def fp a b i:(K a*b) i=a*b i:=by rw[fD];have:=Na (K a) b i 0 (i+1) G (λj _ d=>by simp[K,d]);rw[show sm (λj=>K a j*b (i-j)) (i+1)=K a 0*b (i-0)from(NM (K a) b i<|i+1).symm.trans this];simp[K]
def IM:(1:PS)=K 1:=rfl
def nj:K 0=0:=ext λi=>by simp[K,l3]
def one_mul(a:PS):1*a=a:=ext λi=>by rw[IM,fp,kX]
def mul_one(a:PS):a*1=a:=by rw[mul_comm,one_mul]
def neg_eq a: -a=K (-1)*a:=ext λi=>by rw[fp,IL];omega
def neg_mul(a B:PS): -a*B= -(a*B):=by rw[neg_eq,neg_eq<|a*B,mul_assoc]
def mul_neg(a B:PS):a* -B= -(a*B):=by rw[mul_comm,neg_mul,mul_comm B a]
def Fp a b:K (a+b)=K a+K b:=ext λi=>by rw[eo];unfold K;split<;>rfl
def zM a b:K (a*b)=K a*K b:=ext λi=>by rw[fp];unfold K;split<;>simp
def Fq a k:X (a+k)=X a*X k:=ext λi=>by
 rw[mL];unfold X;by_cases h:a<=i
 .rw[q h];by_cases h2:i=a+k
  .rw[q h2,q G]
  .rw[y h2,y G]
 .rw[y h,y G]
instance:Std.Associative (α:=PS) (·+·):=⟨add_assoc⟩
instance:Std.Commutative (α:=PS) (·+·):=⟨add_comm⟩
instance:Std.Associative (α:=PS) (·*·):=⟨mul_assoc⟩
instance:Std.Commutative (α:=PS) (·*·):=⟨mul_comm⟩
end PS
def ps(a:E Y):PS:=λi=>I a i 0
def cG a i:ps a i=I a i 0:=rfl
def Cg(m:Y)(a B:PS):Prop:=∃U:PS,a=B+PS.K m*U
def Cg.at{m}{a B}(h:Cg m a B) i:a i%m=B i%m:=by obtain⟨U,rfl⟩:=h;rw[PS.eo,PS.fp];exact Nu _ _ _
def Cg.of{m}{a B}(h:∀i,a i%m=B i%m):Cg m a B:=by
 let U:PS:=λi=>a i/m-B i/m
 refine⟨U,PS.ext λi=>?_⟩;have b:=nW (a i) m;have d:=nW (B i) m;have:=h i;have e:U i=a i/m-B i/m:=rfl;rw[PS.eo,PS.fp,e,Ff];omega
def Cg.dvd{m}{a B}(h:Cg m a B) i:m∣a i-B i:=by obtain⟨U,rfl⟩:=h;rw[PS.eo,PS.fp];exact⟨U i,G⟩
def Cg.Ug{m}{a B}(h:∀i,m∣a i-B i):Cg m a B:=Cg.of λi=>Uh.2<|Cf<|h i
def Cg.refl m a:Cg m a a:=⟨0,by rw[PS.mul_zero,PS.add_zero]⟩
def Cg.of_eq{m}{a B}(h:a=B):Cg m a B:=h▸Cg.refl m a
def Cg.symm{m}{a B}(h:Cg m a B):Cg m B a:=Cg.of λi=>(h.at i).symm
def Cg.trans{m}{a B C}(h:Cg m a B)(k:Cg m B C):Cg m a C:=Cg.of λi=>(h.at i).trans<|k.at i
def Cg.add{m}{a B C b}(h:Cg m a B)(k:Cg m C b):Cg m (a+C) (B+b):=by obtain⟨U,rfl⟩:=h;obtain⟨V,rfl⟩:=k;exact⟨U+V,by rw[PS.mul_add];ac_rfl⟩
def Cg.neg{m}{a B}(h:Cg m a B):Cg m (-a) (-B):=by obtain⟨U,rfl⟩:=h;exact⟨-U,by rw[PS.neg_add,PS.mul_neg]⟩
def Cg.sub{m}{a B C b}(h:Cg m a B)(k:Cg m C b):Cg m (a-C) (B-b):=by rw[PS.sub_def,PS.sub_def];exact h.add k.neg
def Cg.mul{m}{b B C a}(h:Cg m b B)(k:Cg m C a):Cg m (b*C) (B*a):=by obtain⟨U,rfl⟩:=h;obtain⟨V,rfl⟩:=k;refine⟨B*V+U*a+PS.K m*U*V,?_⟩;simp only[PS.mul_add,PS.add_mul];ac_rfl
def Cg.IN{m}a{C b}(k:Cg m C b):Cg m (a*C) (a*b):=(Cg.refl m a).mul k
def Cg.Ch{m}{a B}(k:Cg m a B) C:Cg m (a*C) (B*C):=k.mul<|Cg.refl m C
def Cg.aca{m}a{C b}(k:Cg m C b):Cg m (a+C) (a+b):=(Cg.refl m a).add k
def Cg.Fs{m}{a B}(k:Cg m a B) C:Cg m (a+C) (B+C):=k.add<|Cg.refl m C
def Cg.K{m a b}(h:a%m=b%m):Cg m (PS.K a) (PS.K b):=Cg.of λi=>by
 unfold PS.K;split
 .exact h
 .rfl
def Dl(p:Y)(n:V)(a:PS):Prop:=∀i,n<=i->a i%p=0
def Dl.cg{p}{n}{a B}(h:Dl p n a)(k:Cg p a B):Dl p n B:=λi b=>by rw[<-k.at i];exact h i b
def Dl.le{p}{n m}{a}(h:Dl p n a)(k:n<=m):Dl p m a:=λi b=>h i G
def Dl.add{p}{n}{a B}(h:Dl p n a)(k:Dl p n B):Dl p n (a+B):=λi b=>by rw[PS.eo,IP,h i b,k i b];rfl
def Dl.neg{p}{n}{a}(h:Dl p n a):Dl p n (-a):=λi b=>by rw[PS.IL];exact Cf<|Int.dvd_neg.2<|Fu<|h i b
def Dl.sub{p}{n}{a B}(h:Dl p n a)(k:Dl p n B):Dl p n (a-B):=by rw[PS.sub_def];exact h.add k.neg
def acb{p}{f:V->Y}{k}(h:∀i,i<k->f i%p=0):sm f k%p=0:=by
 induction k with
 |zero=>exact gZ _
 |succ k a=>rw[sm,IP,a<|λi b=>h i G,h k G];rfl
def NO{p a b:Y}(h:a%p=0):a*b%p=0:=by rw[qG,h,nh,gZ]
def NP{p a b:Y}(h:b%p=0):a*b%p=0:=by rw[eW];exact NO h
def Dl.mul{p}{n m}{b B}(h:Dl p (n+1) b)(k:Dl p m B):Dl p (n+m) (b*B):=λi d=>by
 rw[PS.fD];refine acb<|λj f=>?_;by_cases a:n+1<=j
 .exact NO<|h j a
 .exact NP<|k (i-j) G
def Dl.mul'{p}{n m}{a B}(h:Dl p n a)(k:Dl p m B):Dl p (n+m) (a*B):=by
 cases n with
 |zero=>
  intro i b
  rw[PS.fD]
  exact acb<|λj d=>NO<|h j<|bf _
 |succ n=>exact(h.mul k).le G
def Dl.top{p}{n m}{a B}(h:Dl p (n+1) a)(k:Dl p (m+1) B):(a*B) (n+m)%p=a n*B m%p:=by
 rw[PS.fD];have:∀r,r<=n+m+1->sm (λi=>a i*B (n+m-i)) r%p=if n<r then a n*B m%p else 0:=by
  intro r f;induction r with
  |zero=>simp[sm]
  |succ r d=>
   rw[sm,IP,d G]
   by_cases b:n<r
   .rw[q b,q G,NO<|h r G,rK,mM]
   .rw[y b];by_cases h2:n=r
    .subst h2;rw[q G,Cd,mM,(G:n+m-n=m)]
    .rw[y G,NP<|k _ G];rfl
 rw[this _ (aT _),q G]
def an0{p}{a}(h:Dl p 0 a):Cg p a 0:=Cg.of λi=>by rw[h i (bf _),PS.l3,gZ]
def kY p a:Dl p (Z a) (ps a):=λi b=>by rw[cG,aN,jS b];simp
def an1 p k:Dl p (k+1) (PS.X k):=λi a=>by unfold PS.X;rw[y G];simp
def Ui p a:Dl p 1 (PS.K a):=λi b=>by unfold PS.K;rw[y G];simp
def an2 p n:Dl p n 0:=λi _=>by rw[PS.l3,gZ]
def acd p:Dl p 1 1:=Ui p 1
def dE(p:V):Prop:=2<=p/\∀d,2<=d->d*d<=p->p%d≠0
def dE.Fv{p d}(h:dE p)(f:d∣p):d=1\/d=p:=by
 let ⟨e,he⟩:=f;have i:=h.1;have k:d≠0:=by intro a;subst a;simp at he;omega
 have a:e≠0:=by intro a;subst a;simp at he;omega
 by_cases d1:d=1
 .exact .inl d1
 by_cases g:e=1
 .subst g;right;omega
 exfalso;by_cases b:d<=e
 .exact h.2 d G (by rw[he];exact jk d b) (by rw[he];exact Nat.mul_mod_right d e)
 .exact h.2 e G (by rw[he];exact et e G) (by rw[he];exact Nat.mul_mod_left d e)
def dE.coprime{p a}(h:dE p)(b:¬p∣a):Nat.Coprime p a:=by
 rcases h.Fv (Nat.gcd_dvd_left p a)with e|e
 .exact e
 .exact absurd (e▸Uj p a) b
def dE.dvd_mul{p a b}(h:dE p)(f:p∣a*b):p∣a\/p∣b:=by
 by_cases d:p∣a
 .exact .inl d
 .exact .inr<|(h.coprime d).dvd_of_dvd_mul_left f
def dE.ace{p}{a b}(h:dE p)(d:(p:Y)∣a*b):(p:Y)∣a\/(p:Y)∣b:=by
 have:p∣aA a*aA b:=by rw[<-rP];have:=IQ.2 d;rwa[o9]at this
 rcases h.dvd_mul this with e|e
 .exact .inl (IQ.1<|by rwa[o9])
 .exact .inr (IQ.1<|by rwa[o9])
def dE.nZ{p}{a b}(h:dE p)(d:a%(p:Y)≠0)(f:b%(p:Y)≠0):a*b%(p:Y)≠0:=λe=>by
 rcases h.ace (Fu e)with e|e
 .exact d<|Cf e
 .exact f<|Cf e
def ch:V->V->V
 |_,0=>1
 |0,_+1=>0
 |n+1,k+1=>ch n k+ch n (k+1)
def rQ n:ch n 0=1:=by cases n<;>rfl
def zN:∀(n k:V),n<k->ch n k=0
 |0,0,h=>by omega
 |0,k+1,_=>rfl
 |n+1,0,h=>by omega
 |n+1,k+1,h=>by rw[ch,zN n k G,zN n (k+1) G]
def IS:∀n,ch n n=1
 |0=>rfl
 |n+1=>by rw[ch,IS n,zN n (n+1) G]
def NQ:∀(n k:V),(k+1)*ch (n+1) (k+1)=(n+1)*ch n k
 |0,0=>rfl
 |0,k+1=>by rw[zN 1 (k+1+1) G];rfl
 |n+1,0=>by have:=NQ n 0;rw[rQ]at this;rw[show ch (n+1+1) (0+1)=ch (n+1) 0+ch (n+1) (0+1)from J,rQ];omega
 |n+1,k+1=>by have a:=NQ n k;have b:=NQ n<|k+1;rw[ch,zO,b];rw[(GS:(k+1+1)*ch (n+1) (k+1)=(k+1)*ch (n+1) (k+1)+ch (n+1) (k+1)),a];rw[show ch (n+1) (k+1)=ch n k+ch n (k+1)from J];grind
def dE.an3{p k}(h:dE p)(b:0<k)(d:k<p):p∣ch p k:=by
 obtain⟨n,rfl⟩:∃n,p=n+1:=⟨p-1,G⟩;obtain⟨j,rfl⟩:∃j,k=j+1:=⟨k-1,G⟩;have a:n+1∣(j+1)*ch (n+1) (j+1):=⟨ch n j,NQ n j⟩;rcases h.dvd_mul a with e|e
 .have:=wi G e;omega
 .exact e
def pw(a:PS):V->PS
 |0=>1
 |n+1=>pw a n*a
def sP(f:V->PS):V->PS
 |0=>0
 |k+1=>sP f k+f k
def Uk{f g:V->PS}:∀{k:V},(∀i,i<k->f i=g i)->sP f k=sP g k
 |0,_=>rfl
 |k+1,h=>by rw[sP,sP,Uk<|λi a=>h i G,h k G]
def acf(f g:V->PS):∀k,sP (λi=>f i+g i) k=sP f k+sP g k
 |0=>(PS.add_zero 0).symm
 |k+1=>by simp only[sP,acf f g k];ac_rfl
def Ul(f:V->PS)(a:PS):∀k,sP (λi=>f i*a) k=sP f k*a
 |0=>(PS.zero_mul a).symm
 |k+1=>by simp only[sP,Ul f a k,PS.add_mul]
def NS(f:V->PS):∀k,sP f (k+1)=f 0+sP (λi=>f<|i+1) k
 |0=>by simp only[sP];exact PS.add_comm _ _
 |k+1=>by rw[sP,NS f k,sP,PS.add_assoc]
def an4{m}{f:V->PS}{k}(h:∀i,i<k->Cg m (f i) 0):Cg m (sP f k) 0:=by
 induction k with
 |zero=>exact Cg.refl m _
 |succ k a=>
  have:=(a<|λi b=>h i G).add<|h k G
  rwa[PS.add_zero]at this
def acg(a B:PS):∀n,pw (a+B) n=sP (λk=>PS.K (ch n k)*(pw a k*pw B (n-k))) (n+1)
 |0=>by rw[show sP (λk=>PS.K (ch 0 k)*(pw a k*pw B (0-k))) (0+1)=0+1*(1*1)from J,PS.zero_add,PS.mul_one,PS.mul_one];rfl
 |n+1=>by
  rw[pw,acg a B n,PS.mul_add,<-Ul,<-Ul];rw[NS (λk=>PS.K (ch (n+1) k)*(pw a k*pw B (n+1-k))) (n+1)];have b:sP (λi=>PS.K (ch (n+1)<|i+1)*(pw a (i+1)*pw B (n+1-(i+1)))) (n+1)=sP (λi=>PS.K (ch n i)*(pw a i*pw B (n-i))*a) (n+1)+sP (λi=>PS.K (ch n<|i+1)*(pw a (i+1)*pw B (n-i))) (n+1):=by rw[<-acf];refine Uk<|λi _=>?_;rw[(G:n+1-(i+1)=n-i),ch,xM,PS.Fp,PS.add_mul,pw];ac_rfl
  have d:sP (λi=>PS.K (ch n i)*(pw a i*pw B (n-i))*B) (n+1)=PS.K (ch (n+1) 0)*(pw a 0*pw B (n+1-0))+sP (λi=>PS.K (ch n<|i+1)*(pw a (i+1)*pw B (n-i))) (n+1):=by
   rw[NS,show sP (λi=>PS.K (ch n<|i+1)*(pw a (i+1)*pw B (n-i))) (n+1)=sP (λi=>PS.K (ch n<|i+1)*(pw a (i+1)*pw B (n-i))) n+PS.K (ch n<|n+1)*(pw a (n+1)*pw B (n-n))from J];rw[zN n (n+1) G,rQ,rQ,show PS.K ((0:V):Y)=0 from PS.nj,PS.zero_mul,PS.add_zero];have f:sP (λi=>PS.K (ch n<|i+1)*(pw a (i+1)*pw B (n-(i+1)))*B) n=sP (λi=>PS.K (ch n<|i+1)*(pw a (i+1)*pw B (n-i))) n:=by refine Uk<|λi h=>?_;rw[(G:n-i=n-(i+1)+1),pw.eq_2 B];ac_rfl
   rw[f];have g:pw B (n+1-0)=pw B (n-0)*B:=rfl;rw[g];ac_rfl
  rw[b,d];ac_rfl
def dE.IT{p}(h:dE p) a B:Cg p (pw (a+B) p) (pw a p+pw B p):=by
 rw[acg];obtain⟨n,rfl⟩:∃n,p=n+1:=⟨p-1,Ci⟩;rw[sP,NS];rw[IS,rQ,(G:n+1-(n+1)=0),BW];have e:Cg ((n+1:V):Y) (sP (λi=>PS.K (ch (n+1)<|i+1)*(pw a (i+1)*pw B (n+1-(i+1)))) n) 0:=by refine an4<|λi l=>?_;have b:=h.an3 (k:=i+1) G G;have:Cg ((n+1:V):Y) (PS.K (ch (n+1) (i+1):V)) (PS.K 0):=Cg.K (by rw[gZ];exact Cf<|xU.2 b);rw[PS.nj]at this;have d:=this.Ch<|pw a (i+1)*pw B (n+1-(i+1));rwa[PS.zero_mul]at d
 have f:PS.K ((1:V):Y)*(pw a 0*pw B (n+1))=pw B (n+1):=by rw[show PS.K ((1:V):Y)=1 from J,PS.one_mul,show pw a 0=1 from J,PS.one_mul]
 have g:PS.K ((1:V):Y)*(pw a (n+1)*pw B 0)=pw a (n+1):=by rw[show PS.K ((1:V):Y)=1 from J,PS.one_mul,show pw B 0=1 from J,PS.mul_one]
 rw[f,g];have:=((Cg.refl ((n+1:V):Y)<|pw B<|n+1).add e).add<|Cg.refl _<|pw a<|n+1;rw[PS.add_zero]at this;rw[PS.add_comm (pw a<|n+1)];exact this
def Um(a:Y):∀n,pw (PS.K a) n=PS.K (a^n)
 |0=>by rw[o8];rfl
 |n+1=>by rw[pw,Um a n,<-PS.zM,fH]
def ach:∀n,pw 1 n=1
 |0=>rfl
 |n+1=>by rw[pw,ach n,PS.mul_one]
def dE.Fw{p:V}(h:dE p):∀a:V,((a:Y)^p)%(p:Y)=(a:Y)%(p:Y)
 |0=>by obtain⟨n,rfl⟩:∃n,p=n+1:=⟨p-1,Ci⟩;rw[fH];simp
 |a+1=>by
  have f:=h.Fw a;have b:=(h.IT (PS.K (a:Y)) 1).at 0;rw[show PS.K (a:Y)+1=PS.K ((a+1:V):Y)by rw[PS.IM,<-PS.Fp];rfl,Um,ach,PS.eo,Um]at b;have d:∀c:Y,PS.K c 0=c:=λc=>by simp[PS.K]
  rw[d,d,PS.IM,d,IP,f,<-IP]at b;exact b
def dE.an5{p a}(h:dE p)(b:¬p∣a):a^(p-1)%p=1:=by
 have d:=h.Fw a;obtain⟨n,rfl⟩:∃n,p=n+1:=⟨p-1,Ci⟩;have f:((n+1:V):Y)∣(a:Y)*((a:Y)^n-1):=by rw[Ff,ni,eW,<-fH];exact Fu<|Uh.1 d
 rcases h.ace f with e|e
 .exact absurd (xU.1 e) b
 .have h3:((a:Y)^n)%((n+1:V):Y)=1%((n+1:V):Y):=Uh.2<|Cf e;have g:(1:Y)%((n+1:V):Y)=1:=gX D Ci;rw[g]at h3;simp only[eE];have:((a^n%(n+1):V):Y)=1:=AR;omega
def dE.inv{p a}(h:dE p)(b:¬p∣a):a*(a^(p-2)%p)%p=1:=by rw[Fy,Nat.mod_mod,<-Fy];have:=h.an5 b;have d:=h.1;rwa[(G:p-1=p-2+1),fQ,hJ]at this
def Un:∀(f b a n p:V),n<2^f->b<p->rN f b a n p=b*a^n%p
 |0,b,a,n,p,h,d=>by have:n=0:=eh;subst this;rw[rN,oC,oW,oY d]
 |f+1,b,a,n,p,h,d=>by
  rw[rN];split
  .rename_i k;subst k;rw[oC,oW,oY d]
  .have l:0<p:=by omega
   have g:n/2<2^f:=by rw[fQ]at h;omega
   have i:(a*a%p)^(n/2)%p=a^(2*(n/2))%p:=by rw[<-Nat.pow_mod,<-Nat.pow_two,Cj]
   split
   .rename_i m;rw[Un f _ _ _ _ g (fN _ l),Fy,i,<-Fy,Nat.mod_mul_mod];have:a^n=a*a^(2*(n/2)):=by rw[hJ,<-fQ];congr 1;omega
    rw[this,wh]
   .rename_i m;rw[Un f _ _ _ _ g d,Fy,i,<-Fy];have:2*(n/2)=n:=G;rw[this]
def an6 a n p(b:n<18446744073709551616)(d:1<p):uM a n p=a^n%p:=by rw[uM,Un _ _ _ _ _ b<|fN _ G,oY d,iG,<-Nat.pow_mod]
def aci a p(b:p<18446744073709551616)(d:1<p):jc a p=a^(p-2)%p:=an6 a (p-2) p G d
def Uo(n:V):V->Bool:=λk=>Nat.rec (motive:=λ_=>Bool) ae (λi a=>match Nat.beq (n%(i+2)) 0 with|true=>ah|false=>a) k
def acj{n:V}:∀{k:V},Uo n k=ae->∀d,2<=d->d<k+2->n%d≠0
 |0,_,d,h2,f=>by omega
 |k+1,h,d,h2,f=>by
  have a:(match Nat.beq (n%(k+2)) 0 with|true=>ah|false=>Uo n k)=ae:=h;split at a
  .cases a
  .rename_i b;by_cases e:d=k+2
   .subst e;intro g;rw[g]at b;cases b
   .exact acj a d h2 G
def an7:Uo 2147483647 46340=ae:=eL
def an8:dE 2147483647:=⟨D,λd a b=>acj an7 d a (by
 by_cases e:d<46342
 .exact e
 .have:46342*46342<=d*d:=l0 G G;omega)⟩
def ack:∀(m n:V),m+n=2147483647->0<m->∃p,dE p/\n<p/\p<=2147483647/\∀a,n<a->a<p->¬dE a
 |0,_,_,h=>by omega
 |m+1,n,h,_=>by
  by_cases b:dE (n+1)
  .exact⟨n+1,b,G,G,λa d f=>G⟩
  .by_cases g:m=0
   .subst g;have:n+1=2147483647:=G;rw[this]at b;exact absurd an8 b
   .let ⟨p,d,f,i,k⟩:=ack m (n+1) G G;refine⟨p,d,G,i,λa s l=>?_⟩;by_cases o:a=n+1
    .rw[o];exact b
    .exact k a G l
def acm n(h:dE n)(t:n<=2147483647):ao c 204 [cU n] (cB ae):=by
 refine aL Tryz.func204 ?_;have u:=h.1;refine e J<|j<|R<|rg 6 J J (λf=>?_)<|λf=>?_
 .exfalso;have f:(n:Y)<2:=aW f;omega
 refine z J<|F J (λi=>?_)<|λ_=>aE ?_
 .exfalso;have i:(n:Y)>2147483647:=aW i;omega
 refine j<|e J<|az<|bq (α:=V) (λd=>⟨[(0,cU n),(3,cU d)],[],4,[]⟩) (λd=>2<=d/\(d-1)*(d-1)<=n) (λd=>n+2-d) 2 ⟨D,G⟩ aV ?_;rintro d ⟨k,l⟩;have b:d<65536:=by
  by_cases m:d<65536
  .exact m
  .have:65535*65535<=(d-1)*(d-1):=l0 G G;omega
 have o:d*d<4294967296:=NF b b;have p:aw .u64 ((d:Y)*(d:Y))=((d*d:V):Y):=by rw[<-fC,wrap_u64 _ G G]
 refine j<|e J<|F J (λa=>?_)<|λa=>?_
 .have a:aw .u64 ((d:Y)*(d:Y))<=(n:Y):=aW a;rw[p]at a;have a:d*d<=n:=G;have s:=h.2 d k a;refine aE (j<|az<|e J (hp:=aF)<|F J (λg=>?_)<|λ_=>dc<|bL ?_)
  .exfalso;have g:(n:Y).tmod (d:Y)=0:=eq_of_beq g;rw[mI]at g;omega
  .have:d<=n:=b6 (NT d G) a;refine rt J<|a4 (d+1) ⟨G,by rw[eE];exact a⟩ (G:n+2-(d+1)<n+2-d)<|wk ⟨sR J,sE J ?_,A⟩ A;refine bP ?_;show aw .u64 ((d:Y)+1)=((d+1:V):Y);rw[wrap_u64 _ G G];omega
 .exact bt<|aK<|e J<|c7 J
def an9 n(h:¬dE n)(v:n<=2147483647):ao c 204 [cU n] (cB ah):=by
 refine aL Tryz.func204 ?_;refine e J<|j<|R<|rg 6 J J (λi=>?_)<|λi=>?_
 .exact z J (F J (λ_=>e J<|bV<|cQ<|atR J)<|λl=>by cases l)
 have p:2<=n:=by have i:¬(n:Y)<2:=bc i;omega
 refine z J<|F J (λl=>?_)<|λ_=>aE ?_
 .exfalso;have l:(n:Y)>2147483647:=aW l;omega
 refine j<|e J<|az<|bq (α:=V) (λd=>⟨[(0,cU n),(3,cU d)],[],4,[]⟩) (λd=>2<=d/\(d-1)*(d-1)<=n/\∀k,2<=k->k<d->n%k≠0) (λd=>n+2-d) 2 ⟨D,G,λk m p=>G⟩ aV ?_;rintro d ⟨w,t,b⟩;have f:d<65536:=by
  by_cases g:d<65536
  .exact g
  .have:65535*65535<=(d-1)*(d-1):=l0 G G;omega
 have u:d*d<4294967296:=NF f f;have s:aw .u64 ((d:Y)*(d:Y))=((d*d:V):Y):=by rw[<-fC,wrap_u64 _ G G]
 refine j<|e J<|F J (λa=>?_)<|λa=>?_
 .have a:aw .u64 ((d:Y)*(d:Y))<=(n:Y):=aW a;rw[s]at a;have a:d*d<=n:=G;refine aE (j<|az<|e J (hp:=aF)<|F J (λo=>?_)<|λo=>dc<|bL ?_)
  .refine e J<|bV ?_;repeat(first|refine cQ ?_|refine lQ ?_|refine mq ?_)
   exact atR J
  .have o:(n:Y).tmod (d:Y)≠0:=nY o;rw[mI]at o;have:d<=n:=b6 (NT d G) a;refine rt J (a4 (d+1) ⟨G,by rw[eE];exact a,λk m p=>?_⟩ (G:n+2-(d+1)<n+2-d)<|wk ⟨sR J,sE J ?_,A⟩ A)
   .by_cases g:k=d
    .subst g;omega
    .exact b k m G
   .refine bP ?_;show aw .u64 ((d:Y)+1)=((d+1:V):Y);rw[wrap_u64 _ G G];omega
 .exfalso;have a:¬aw .u64 ((d:Y)*(d:Y))<=(n:Y):=bc a;rw[s]at a;refine h ⟨p,λk m i=>b k m ?_⟩;by_cases g:k<d
  .exact g
  .have:d*d<=k*k:=l0 G G;omega
def an' n(l:n<2147483647):∃p,dE p/\n<p/\p<=2147483647/\(∀a,n<a->a<p->¬dE a)/\ao c 174 [cU n] (.t [(ah,[.I .u64 p]),(ah,[.I .i64 0])]):=by
 let ⟨p,d,h2,f,g⟩:=ack (2147483647-n) n G G;refine⟨p,d,h2,f,g,?_⟩;refine aL Tryz.func174 ?_;refine e J<|j<|e J<|F J (λh=>?_)<|λ_=>aE ?_
 .exfalso;have h:(n:Y)>=2147483647:=aW h;omega
 refine e J<|j<|az<|bq (α:=V) (λa=>⟨[(4,cU a)],[],4,[]⟩) (λa=>n<a/\a<=p) (λa=>p-a) (n+1) ⟨G,G⟩ (wk ⟨sE J ?_,A⟩ A) ?_
 .refine bP ?_;show aw .u64 ((n:Y)+1)=((n+1:V):Y);rw[wrap_u64 _ G G];omega
 rintro a ⟨b,i⟩;by_cases k:a=p
 .subst k;refine j<|bH J J (acm a d f) J<|F J (λh=>fR)<|λ_=>?_;exact bt<|aK<|e J<|c7 J
 .refine j<|bH J J (an9 a (g a b G) G) J<|F J (λ_=>?_)<|λh=>fR;refine aE<|az<|rt J<|fB<|a4 (a+1) ⟨G,G⟩ (G:p-(a+1)<p-a)<|wk ⟨sE J ?_,A⟩ A;refine bP ?_;show aw .u64 ((a:Y)+1)=((a+1:V):Y);rw[wrap_u64 _ G G];omega
end Go.El
