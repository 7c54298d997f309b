/- Own work; no condition. -/
import Derived.Test.YtceihkmakfdcnaaGreatI7
import Derived.Test.YtceihkmakfdcnaaGreatI6
set_option linter.all false
set_option maxHeartbeats 16000000
set_option maxRecDepth 100000
open BitVec renaming ofInt->jI
open Bool renaming false->ak,true->af
open Go.El renaming rr->e,cS->S,xe->F,re->O,bA->h,cI->y,akB->R,rb->w
open Go.IntKind renaming wrap->ay,bits->dj
open Go.Proofs.Tryz renaming prog->r,func190->aef
open Int renaming toNat->ah,pow_nonneg->ad7,fdiv->V2,natAbs->aD
open List renaming length->Z,replicate->bt,getD->I,take->c,drop->az
open _root_ renaming Int->V,Nat->G,List->E
namespace Go.El
open Go Go.Proofs
def Dx x b s(d:0<=x)(f:x%2^s=0)(g:0<=b)(a:b<2^s)(m:x+b<18446744073709551616):
  ay .u64 ((jI (dj .u64) x|||jI (dj .u64) b).toNat:V)=x+b:=by
 obtain⟨X,rfl⟩:=Dy d
 obtain⟨C,rfl⟩:=Dy g
 have i:((X:V)%2^s)=((X%2^s:G):V):=ax
 rw[i]at f
 have a:C<2^s:=by
  have:((C:G):V)<((2^s:G):V):=by rw[wj];exact a
  omega
 have k:(jI (dj .u64) (X:V)|||jI (dj .u64) (C:V)).toNat=X+C:=by
  rw[Pm,Pm,BitVec.toNat_or,Pn,Pn,show dj .u64=64 from J,qK Y,qK Y];have l:X=2^s*(X/2^s):=by have:=sU X<|2^s;omega
  rw[l,<-Nat.two_pow_add_eq_or_of_lt a]
 rw[k,be _ Y Y];omega
def Bf x s(a:0<=x)(b:s<=64)(d:x*2^s<18446744073709551616):ay .u64 (x*2^(min (ah ((s:G):V))<|dj .u64))=x*2^s:=by rw[cx,show min s (dj .u64)=s from uk b,be _ (ku a<|ad7 o) d]
def Bg(x:V) s(a:s<=64):x.fdiv (2^(min (ah ((s:G):V))<|dj .u64))=x/2^s:=by rw[cx,show min s (dj .u64)=s from uk a,Dv _<|ad7 o]
def ad8(x:V) s(a:s<=32):x.fdiv (2^(min (ah ((s:G):V))<|dj .u32))=x/2^s:=by rw[cx,show min s (dj .u32)=s from uk a,Dv _<|ad7 o]
def apW(x:G)(s:0<x)(v:x<4294967296):∃l:G,aq r 245 [cW x] (cI l)/\l<=32/\1<=l/\x<2^l/\2^l<=2*x:=by
 obtain⟨y,n,m,hy,ex⟩:∃y n:G,(n=0/\y=x/\x<256\/n=8/\y=x/256/\256<=x/\x<65536\/n=16/\y=x/65536/\65536<=x/\x<16777216\/n=24/\y=x/65536/256/\16777216<=x)/\y<256/\0<y:=by
  by_cases a1:x<256
  .exact⟨x,0,.inl ⟨J,J,a1⟩,a1,s⟩
  .by_cases a2:x<65536
   .exact⟨x/256,8,.inr<|.inl ⟨J,J,Y,a2⟩,Y,Y⟩
   .by_cases t:x<16777216
    .exact⟨x/65536,16,.inr<|.inr<|.inl ⟨J,J,Y,t⟩,Y,Y⟩
    .exact⟨x/65536/256,24,.inr<|.inr<|.inr ⟨J,J,Y⟩,Y,Y⟩
 let ⟨l,el,A,h2,p⟩:=apt hy;have p:2^l<=2*y:=Y;have B:1<=l:=by
  by_cases u:l=0
  .subst u;simp at h2;omega
  .omega
 refine⟨n+l,?_,Y,Y,?_,?_⟩
 .have f:(x:V).fdiv (2^(min (ah ((16:G):V))<|dj .u32))=((x/65536:G):V):=by rw[ad8 _ _ Y];omega
  have k:∀z:G,(z:V).fdiv (2^(min (ah ((8:G):V))<|dj .u32))=((z/256:G):V):=λz=>by rw[ad8 _ _ Y];omega
  have wu8:∀z:G,z<256->ay .u8 (z:V)=(z:V):=λz C=>by simp[ay,dj,IntKind.signed];omega
  refine aS Tryz.func245 ?_;refine e J<|h<|e J ?_;refine F J (λi=>?_)<|λi=>?_
  .have i:65536<=x:=by have i:(65536:V)<=(x:V):=aX i;omega
   refine e J (hp:=aH)<|rt J<|aR<|h<|e J ?_;refine F J (λb=>?_)<|λb=>?_
   .have b:256<=x/65536:=by have b:(256:V)<=(x:V).fdiv (2^(min (ah ((16:G):V))<|dj .u32)):=aX b;rw[f]at b;omega
    refine e J (hp:=aH)<|rt J (hp:=aH)<|aR ?_;refine fg (st':=⟨[(0,cW y),(2,cI n)],[],9,[]⟩) (wk ⟨⟨_,J,bq.of_eq<|Fo<|by show V2 (V2 (x:V)<|2^(min (ah ((16:G):V))<|dj .u32)) (2^(min (ah ((8:G):V))<|dj .u32))=_;rw[f,k];omega⟩,⟨_,J,bq.of_eq<|jC Y⟩,M⟩ M) ?_;refine w<|rx (x:= .c<|.I .u8 l) (pm:= .le 0<|ay .u8 (y:V)) J (O3 J J J J Po) Pp (hp:=aH)<|O J (hp:=aH)<|cd J<|jC ?_;show(n:V)+(l:V)=((n+l:G):V);omega
   .have b:x/65536<256:=by have b:¬(256:V)<=(x:V).fdiv (2^(min (ah ((16:G):V))<|dj .u32)):=bh b;rw[f]at b;omega
    refine aG ?_;refine fg (st':=⟨[(0,cW y),(2,cI n)],[],5,[]⟩) (wk ⟨⟨_,J,bq.of_eq<|Fo<|by show V2 (x:V) (2^(min (ah ((16:G):V))<|dj .u32))=_;rw[f];omega⟩,⟨_,J,bq.of_eq<|jC Y⟩,M⟩ M) ?_;refine w<|rx (x:= .c<|.I .u8 l) (pm:= .le 0<|ay .u8 (y:V)) J (O3 J J J J Po) Pp (hp:=aH)<|O J (hp:=aH)<|cd J<|jC ?_;show(n:V)+(l:V)=((n+l:G):V);omega
  .have i:x<65536:=by have i:¬(65536:V)<=(x:V):=bh i;omega
   refine aG<|h<|e J ?_;refine F J (λb=>?_)<|λb=>?_
   .have b:256<=x:=by have b:(256:V)<=(x:V):=aX b;omega
    refine e J (hp:=aH)<|rt J (hp:=aH)<|aR ?_;refine fg (st':=⟨[(0,cW y),(2,cI n)],[],5,[]⟩) (wk ⟨⟨_,J,bq.of_eq<|Fo<|by show V2 (x:V) (2^(min (ah ((8:G):V))<|dj .u32))=_;rw[k];omega⟩,⟨_,J,bq.of_eq<|jC Y⟩,M⟩ M) ?_;refine w<|rx (x:= .c<|.I .u8 l) (pm:= .le 0<|ay .u8 (y:V)) J (O3 J J J J Po) Pp (hp:=aH)<|O J (hp:=aH)<|cd J<|jC ?_;show(n:V)+(l:V)=((n+l:G):V);omega
   .have b:x<256:=by have b:¬(256:V)<=(x:V):=bh b;omega
    refine aG ?_;refine fg (st':=⟨[(0,cW y),(2,cI n)],[],3,[]⟩) (wk ⟨⟨_,J,bq.of_eq<|Fo (Y:(x:V)=(y:V))⟩,⟨_,J,bq.of_eq<|jC Y⟩,M⟩ M) ?_;refine w<|rx (x:= .c<|.I .u8 l) (pm:= .le 0<|ay .u8 (y:V)) J (O3 J J J J Po) Pp (hp:=aH)<|O J (hp:=aH)<|cd J<|jC ?_;show(n:V)+(l:V)=((n+l:G):V);omega
 .rcases m with⟨d,g,a⟩|⟨d,g,a⟩|⟨d,g,a⟩|⟨d,g,a⟩
  .subst d g;simpa using h2
  .subst d;rw[kv];omega
  .subst d;rw[kv];omega
  .subst d;rw[kv];omega
 .rcases m with⟨d,g,a⟩|⟨d,g,a⟩|⟨d,g,a⟩|⟨d,g,a⟩
  .subst d g;simpa using p
  .subst d;rw[kv];omega
  .subst d;rw[kv];omega
  .subst d;rw[kv];omega
def apX(x:G)(a:0<x)(b:x<4294967296):∃s:G,aq r 223 [cW x] (y s)/\s<=31/\2147483648<=x*2^s/\x*2^s<4294967296:=by
 let ⟨l,d,m,h2,f,g⟩:=apW x a b;have n:2^l*2^(32-l)=4294967296:=by rw[<-kv,(Y:l+(32-l)=32)]
 have i:0<2^(32-l):=ko o;have p:x*2^(32-l)<2^l*2^(32-l):=V3 f i;have k:2^l*2^(32-l)<=2*x*2^(32-l):=eB _ g;rw[tn]at k;refine⟨32-l,?_,Y,Y,Y⟩;refine aS Tryz.func223 ?_;refine e J<|w<|rc J J d<|O J (hp:=aH)<|cd J<|jC ?_;show(32:V)-(l:V)=((32-l:G):V);omega
def apY a d(p:cc a)(m:0<d)(u:d<4294967296)(T:Z a<=1099511627776):aq r 222 [S ao a,cU d] (.t [(ak,[.S ao (R<|ah<|val a/d)]),(ak,[.I .u64 (val a%d)])]):=by
 refine aS Tryz.func222 ?_;refine e J<|w ?_;refine rm ao (Z a) J J J J J J (nJ .u32) J ?_ ?_ ?_
 .show _*4<=_;omega
 .show _*1<=_;omega
 refine O J<|e J<|h<|e J ?_;refine aA<|bx (α:=G×E V×V) (λx=>⟨[(0,S ao a),(1,cU d),(6,.c<|.X 1002000),(7,cU x.2.2),(8,y<|(x.1:V)-1)],[(1002000,.vec 142 ao x.2.1)],4,[]⟩) (GD a d) (λx=>x.1) (Z a,bt (Z a) 0,0) ?_ aY ?_
 .exact⟨aN _,ax,te _,iD _,m,y4⟩
 .rintro⟨k,q,b⟩ f;have z:Z q=Z a:=f.len;have l:0<=b:=f.r0;have n:b<d:=f.r1;have W:k<=Z a:=f.k;refine h<|e J ?_;refine F J (λi=>?_) (λi=>?_)
  .have i:(k:V)-1>=0:=by simpa using i
   obtain⟨j,rfl⟩:∃j,k=j+1:=⟨k-1,Y⟩;have A:ah (((j+1:G):V)-1)=j:=Y;have g:=dv p j;have H:=OU l n g.1 g.2 u;have B:=f.next p u;refine aG<|h<|aA<|e J (hp:=aH) ?_;have C:ay .u64 ((jI (dj .u64) (ay .u64<|b*2^(min (ah ((32:G):V))<|dj .u64))|||jI (dj .u64) (ay .u64<|I a (ah<|((j+1:G):V)-1) 0)).toNat:V)=b*4294967296+I a j 0:=by rw[A,Bf b 32 l Y Y,be (I a j 0) Y Y,Dx (b*2^32) (I a j 0) 32 Y (GU _ _) Y Y Y,show(2:V)^32=4294967296 from J]
   generalize ht:b*4294967296+I a j 0=s at B H C;have K:ay .u32 (ay .u64<|s.tdiv d)=s/d:=by rw[wc Y,be _ Y Y,nO _ Y Y]
   have N:s.tmod d=s%d:=l7 Y;refine fg (st':=⟨[(0,S ao a),(1,cU d),(6,.c<|.X 1002000),(8,y<|((j+1:G):V)-1),(9,cU s)],[(1002000,.vec 142 ao q)],6,[]⟩) (wk ⟨sR J,sR J,sR J,sR J,sE J ?_,M⟩ ⟨bR J,M⟩) ?_
   .exact bY C
   refine e J<|rt J<|bU<|rt J<|a6 (j,q.set j<|s/d,s%d) B uD<|wk ⟨sR J,sR J,sR J,sE J ?_,sE J ?_,M⟩ ⟨bE J ?_,M⟩
   .exact bY N
   .refine jC ?_;show((j+1:G):V)-1-1=(j:V)-1;omega
   .rw[K,A]
  .have i:¬((k:V)-1>=0):=by simpa using i
   have:k=0:=Y;subst this;refine bD<|aR<|dm 1002000 J J J<|w ?_;refine rc J J (xI _)<|O J<|cd J ?_;have D:val a=val q*d+b:=f.v;have P:cc q:=f.r;have eq:val a/d=val q:=by rw[D,xJ,Ds _ _ Y,GG l n];omega
   have Q:val a%d=b:=by rw[D,xJ,Vz,ix l n]
   rw[qF P,eq,Q];rfl
def apZ{a}(b:cc a) s i:0<=val (c i a)*2^s/4294967296^i/\val (c i a)*2^s/4294967296^i<2^s:=by have d:=nb<|jN b i;have k:=ov<|jN b i;have l:=wb (m:=(c i a).length) (n:=i) b6;have f:=kS i;have g:(0:V)<2^s:=ow o;refine⟨Bb (ku d Y) Y,GF f ?_⟩;rw[fo];exact Int.mul_lt_mul_of_pos_left Y g
def ap0 a s i:
  b7 (i+1) (val (c (i+1) a)*2^s)=b7 i (val (c i a)*2^s)++[(I a i 0*2^s+val (c i a)*2^s/4294967296^i)%4294967296]/\
  val (c (i+1) a)*2^s/4294967296^(i+1)=(I a i 0*2^s+val (c i a)*2^s/4294967296^i)/4294967296:=by
 have d:=kS i
 have e:val (c (i+1) a)*2^s=val (c i a)*2^s+I a i 0*2^s*4294967296^i:=by rw[lA,o0,jP,fo<|4294967296^i,<-jP]
 have b:val (c (i+1) a)*2^s/4294967296^i=I a i 0*2^s+val (c i a)*2^s/4294967296^i:=by rw[e,Ds _ _ Y,xJ]
 refine⟨?_,by rw[O',b]⟩
 rw[GM,b,e,VN]
def ad' xs n(a:V):(xs++bt (n+1) 0).set (Z xs) a=(xs++[a])++bt n 0:=by rw[Pf _ _ (aN _),jA,Aw,VO,mX];rfl
def aea a(s:G)(z:cc a)(B:s<=31)(N:Z a<=1099511627776):pS r 224 [S ao a,y s] 142 ao (b7 (Z a+1)<|val a*2^s):=by
 refine JO Tryz.func224 J J J J o ?_;have u:(2:V)^s<=2^31:=by have:=eU (o:2>0) B;have A:(2:V)^s=((2^s:G):V):=ax;omega
 have C:(0:V)<2^s:=ow o;refine e J<|w ?_;refine rm ao (Z a+1) J J J J J J (nJ .u32) J ?_ ?_ ?_
 .show _*4<=_;omega
 .show _*1<=_;omega
 refine O J<|e J<|h<|e J ?_;refine aA<|bx (α:=G) (λi=>⟨[(0,S ao a),(1,y s),(5,.c<|.X 1003000),(6,cU<|val (c i a)*2^s/4294967296^i),(14,y<|Z a),(15,y i)],[(1003000,.vec 142 ao<|b7 i (val (c i a)*2^s)++bt (Z a+1-i) 0)],4,[]⟩) (λi=>i<=Z a) (λi=>Z a-i) 0 (bm _) (wk ⟨sR J,sR J,sR J,sE J ?_,sR J,sR J,M⟩ ⟨bE J ?_,M⟩) ?_
 .simp[val];rfl
 .simp[b7]
 intro i P;have l:=apZ z s i;have d:=ap0 a s i;have b:Z (b7 i<|val (c i a)*2^s)=i:=uF _ _;generalize m:val (c i a)*2^s/4294967296^i=f at l d;refine e J<|h ?_;refine F J (λk=>?_)<|λk=>?_
 .have k:i<Z a:=by simpa using k
  have g:=dv z i;have v:0<=I a i 0*2^s:=ku g.1 Y;have D:I a i 0*2^s<=4294967295*2^31:=y8 Y u Y o;refine aG<|h<|aA<|e J<|e J (hp:=aH) ?_;have H:ay .u64 ((jI (dj .u64) (ay .u64<|ay .u64 (I a (ah (i:V)) 0)*2^(min (ah ((s:G):V))<|dj .u64))|||jI (dj .u64) f).toNat:V)=I a i 0*2^s+f:=by rw[cx i,be (I a i 0) Y Y,Bf _ s g.1 Y Y,Dx _ f s v (GU _ _) l.1 l.2 Y]
  generalize ht:I a i 0*2^s+f=t at*;refine fg (st':=⟨[(0,S ao a),(1,y s),(5,.c<|.X 1003000),(7,y i),(8,cU t),(14,y<|Z a),(15,y i)],[(1003000,.vec 142 ao<|b7 i (val (c i a)*2^s)++bt (Z a+1-i) 0)],7,[]⟩) (wk ⟨sR J,sR J,sR J,sR J,sE J ?_,sR J,sR J,M⟩ ⟨bR J,M⟩) ?_
  .exact bY H
  have x:Z (b7 i (val (c i a)*2^s)++bt (Z a+1-i) (0:V))=Z a+1:=by rw[iL,b,gQ];omega
  refine e J (hp:=aH)<|rt J (hp:=aH)<|bU<|rt J<|a6 (i+1) k r6<|wk ⟨sR J,sR J,sR J,sE J ?_,sR J,sR J,M⟩ ⟨bE J ?_,M⟩
  .refine bY ?_;rw[d.2];exact Bg t 32 Y
  .refine bl (aC.vec 142 ao) ?_;have A:ay .u32 t=t%4294967296:=OZ;have n:=ad' (b7 i<|val (c i a)*2^s) (Z a-i)<|t%4294967296;rw[b,(Y:Z a-i+1=Z a+1-i)]at n;rw[A,cx,n,d.1,(Y:Z a-i=Z a+1-(i+1))]
 .have k:¬i<Z a:=by simpa using k
  have K:i=Z a:=Y;subst K;have p:f<4294967296:=Y;have x:Z (b7 (Z a) (val (c (Z a) a)*2^s)++bt (Z a+1-Z a) (0:V))=Z a+1:=by rw[iL,b,gQ];omega
  refine bD<|aR<|e J (hp:=aH)<|e J ?_;refine fg (st':=⟨[(4,.c<|.X 1003000)],[(1003000,.vec 142 ao<|b7 (Z a+1)<|val a*2^s)],20,[]⟩) (wk ⟨sR J,M⟩ ⟨bE J ?_,M⟩)<|bX<|JN (id:=1003000) cp J J;refine bl (aC.vec 142 ao) ?_;have n:=ad' (b7 (Z a)<|val (c (Z a) a)*2^s) 0 f;rw[b]at n;rw[nO f l.1 p,cx,(Y:Z a+1-Z a=0+1),n,Fs,iO,GM,ik];rw[ik]at m;rw[m,ix l.1 p]
def ap1 t s(a:0<=t)(i:t<18446744073709551616)(d:s<=31):
  ay .u64 ((jI (dj .u64) t&&& jI (dj .u64) (ay .u64<|ay .u64 (1*2^(min (ah ((s:G):V))<|dj .u64))-1)).toNat:V)=t%2^s:=by
 have k:2^s<=2^31:=eU o d
 have b:0<2^s:=ko o
 have f:(2:V)^s=((2^s:G):V):=ax
 obtain⟨T,rfl⟩:=Dy a
 rw[Bf 1 s o Y Y,mc,be (2^s-1) Y Y]
 have g:(2:V)^s-1=((2^s-1:G):V):=Y
 rw[g,Pm,Pm,BitVec.toNat_and,Pn,Pn,show dj .u64=64 from J,qK Y,qK Y,Nat.and_two_pow_sub_one_eq_mod]
 have:=gJ T b
 rw[be _ Y Y,f,Kf]
def ap2 a(s:G)(n:cc a)(p:s<=31)(N:Z a<=1099511627776):aq r 226 [S ao a,y s] (S ao<|R<|ah<|val a/2^s):=by
 refine aS Tryz.func226 ?_;have D:(2:V)^s<=2^31:=by have:=eU (o:2>0) p;have P:(2:V)^s=((2^s:G):V):=ax;omega
 have i:(0:V)<2^s:=ow o;refine e J<|w ?_;refine rm ao (Z a) J J J J J J (nJ .u32) J ?_ ?_ ?_
 .show _*4<=_;omega
 .show _*1<=_;omega
 refine O J<|e J<|h<|e J ?_;refine aA<|bx (α:=G×E V×V) (λx=>⟨[(0,S ao a),(1,y s),(5,.c<|.X 1002000),(6,cU x.2.2),(7,y<|(x.1:V)-1)],[(1002000,.vec 142 ao x.2.1)],4,[]⟩) (GD a<|2^s) (λx=>x.1) (Z a,bt (Z a) 0,0) ?_ aY ?_
 .exact⟨aN _,ax,te _,iD _,i,y4⟩
 .rintro⟨k,q,b⟩ d;have u:Z q=Z a:=d.len;have l:0<=b:=d.r0;have z:b<2^s:=d.r1;have Q:k<=Z a:=d.k;refine h<|e J ?_;refine F J (λf=>?_) (λf=>?_)
  .have f:(k:V)-1>=0:=by simpa using f
   obtain⟨j,rfl⟩:∃j,k=j+1:=⟨k-1,Y⟩;have A:ah (((j+1:G):V)-1)=j:=Y;have g:=dv n j;have m:=OU l z g.1 g.2 Y;have B:=d.next n Y;refine aG<|h<|aA<|e J (hp:=aH) ?_;have C:ay .u64 ((jI (dj .u64) (ay .u64<|b*2^(min (ah ((32:G):V))<|dj .u64))|||jI (dj .u64) (ay .u64<|I a (ah<|((j+1:G):V)-1) 0)).toNat:V)=b*4294967296+I a j 0:=by rw[A,Bf b 32 l Y Y,be (I a j 0) Y Y,Dx (b*2^32) (I a j 0) 32 Y (GU _ _) Y Y Y,show(2:V)^32=4294967296 from J]
   generalize ht:b*4294967296+I a j 0=t at B m C;refine fg (st':=⟨[(0,S ao a),(1,y s),(5,.c<|.X 1002000),(7,y<|((j+1:G):V)-1),(8,cU t)],[(1002000,.vec 142 ao q)],6,[]⟩) (wk ⟨sR J,sR J,sR J,sR J,sE J ?_,M⟩ ⟨bR J,M⟩) ?_
   .exact bY C
   refine e J (hp:=aH)<|rt J (hp:=aH)<|bU<|rt J<|a6 (j,q.set j<|t/2^s,t%2^s) B uD<|wk ⟨sR J,sR J,sR J,sE J ?_,sE J ?_,M⟩ ⟨bE J ?_,M⟩
   .exact bY<|ap1 t s m.1 m.2.1 p
   .refine jC ?_;show((j+1:G):V)-1-1=(j:V)-1;omega
   .refine bl (aC.vec 142 ao) ?_;rw[Bg t s Y,A,nO _ Y Y]
  .have f:¬((k:V)-1>=0):=by simpa using f
   have:k=0:=Y;subst this;refine bD<|aR<|dm 1002000 J J J<|w ?_;refine rc J J (xI _)<|O J<|cd J ?_;have H:val a=val q*2^s+b:=d.v;have K:cc q:=d.r;have eq:val a/2^s=val q:=by rw[H,xJ,Ds _ _ Y,GG l z];omega
   rw[qF K,eq]
def r9 n:ay .u64 n=n%18446744073709551616:=OZ
def zb n:ay .u32 n=n%4294967296:=OZ
def Bh{x a:V}(h:(x !=a)=af):x≠a:=eQ
def zd{x a:V}(h:(x !=a)=ak):x=a:=eQ
def ap3 a b(p:cc a)(s:cc b)(B:can a)(D:can b):aq r 161 [S ao a,S ao b] (y<|eE (val a)<|val b):=by
 refine aS Tryz.func161<|xj 0 J λu=>xj 1 J λv=>?_;simp only[ET.n,qG]at u v;refine e J<|h<|e J ?_;refine F J (λi=>?_)<|λi=>?_
 .have i:Z a≠Z b:=by have i:=Bh i;omega
  refine h<|e J ?_;refine F J (λd=>?_)<|λd=>?_
  .have d:Z a<Z b:=by have d:(Z a:V)<(Z b:V):=aX d;omega
   refine e J<|bX ?_;repeat(first|refine da ?_|refine mz ?_|refine m0 ?_)
   refine fO J ?_;rw[eE,q<|OQ p s D d];rfl
  .have d:¬Z a<Z b:=by have d:¬(Z a:V)<(Z b:V):=bh d;omega
   refine aG ?_;refine e J<|bX ?_;repeat(first|refine da ?_|refine mz ?_|refine m0 ?_)
   refine fO J ?_;have:=OQ s p B Y;rw[eE,ma Y,q this];rfl
 .have x:Z a=Z b:=by have i:=zd i;omega
  refine aG<|h<|e J ?_;refine aA<|bx (α:=G) (λk=>⟨[(0,S ao a),(1,S ao b),(5,y<|(k:V)-1)],[],3,[]⟩) (λk=>k<=Z a/\az k a=az k b) (λk=>k) (Z a) ⟨aN _,by simp[x]⟩ aY ?_;rintro k ⟨H,m⟩;refine h<|e J ?_;refine F J (λz=>?_)<|λz=>?_
  .simp at z;obtain⟨j,rfl⟩:∃j,k=j+1:=⟨k-1,Y⟩;have C:(((j+1:G):V)-1)=j:=Y;have g:j<Z a:=Y;rw[C];refine aG<|h<|aA<|e J ?_;refine F J (λt=>?_) (λt=>?_)
   .have t:I a j 0≠I b j 0:=Bh t;refine h<|e J ?_;refine F J (λl=>?_) (λl=>?_)
    .have l:I a j 0<I b j 0:=aX l;refine e J<|bX ?_;repeat(first|refine da ?_|refine mz ?_|refine m0 ?_)
     refine fO J ?_;rw[eE,q<|OR p s j m x g l];rfl
    .have l:¬I a j 0<I b j 0:=bh l;refine aG ?_;refine e J<|bX ?_;repeat(first|refine da ?_|refine mz ?_|refine m0 ?_)
     refine fO J ?_;have:=OR s p j m.symm x.symm Y Y;rw[eE,ma Y,q this];rfl
   .have A:I a j 0=I b j 0:=zd t;refine dk<|bU<|rt J<|a6 j ⟨Y,?_⟩ uD aY;have f:j<Z b:=Y;rw[rZ g,rZ f,m];simp only[aO,cT g,cT f,sV]at A;rw[A]
  .simp at z;have:k=0:=Y;subst this;refine bD<|aR ?_;refine e J<|bX ?_;repeat(first|refine da ?_|refine mz ?_|refine m0 ?_)
   refine fO J ?_;simp only[qx]at m;rw[m,eE,ma Y,ma Y];rfl
def Pq m k:aq r 161 [S ao (R m),S ao<|R k] (y<|eE m k):=by have:=ap3 (R m) (R k) (eO m) (eO k) (xH m)<|xH k;rw[fa,fa]at this;exact this
def ap4 a b(s:cc a)(t:cc b)(Q:Z b<=Z a)(B:val b<=val a)(T:Z a<=1099511627776):aq r 162 [S ao a,S ao b] (S ao<|R<|ah<|val a-val b):=by
 refine aS Tryz.func162 ?_;refine e J<|w ?_;refine rm ao (Z a) J J J J J J (nJ .u32) J ?_ ?_ ?_
 .show _*4<=_;omega
 .show _*1<=_;omega
 refine O J<|e J<|h<|e J ?_;generalize hM:Z a=M;refine aA<|bx (α:=G×E V×V) (λx=>⟨[(0,S ao a),(1,S ao b),(5,.c<|.X 1002000),(6,cU x.2.2),(13,y M),(14,y x.1)],[(1002000,.vec 142 ao x.2.1)],4,[]⟩) (J3 a b M) (λx=>M-x.1) (0,bt M 0,0) ?_ ?_ ?_
 .refine⟨bm _,ax,te M,?_,iD _,J2,Dm⟩;intro j _;simp only[aO,nc];split<;>rfl
 .exact aY
 .rintro⟨i,o,f⟩ k;have l:Z o=M:=k.len;have C:0<=f:=k.c0;have D:f<=1:=k.c1;have u:i<=M:=k.i;have W:=dv s i;have q:=dv t i;refine e J<|h ?_;refine F J (λg=>?_) (λg=>?_)
  .have g:i<M:=by have g:(i:V)<(M:V):=aX g;omega
   have n:=k.next g s t;simp only at n;refine aG<|h<|aA<|e J<|e J (hp:=aH) ?_;refine h<|e J ?_;refine F J (λh2=>?_)<|λh2=>?_
   .have h2:i<Z b:=by have h2:(i:V)<(Z b:V):=aX h2;omega
    refine rt J (hp:=aH)<|aR ?_;have m:ay .u64 (ay .u64 (ay .u64 (I a (ah (i:V)) 0)-f)-ay .u64 (I b (ah (i:V)) 0))=(I a i 0-I b i 0-f)%18446744073709551616:=by rw[cx,r9,r9,r9,r9];omega
    generalize H:(I a i 0-I b i 0-f)%18446744073709551616=d at m;refine fg (st':=⟨[(0,S ao a),(1,S ao b),(5,.c<|.X 1002000),(7,y i),(8,cU d),(13,y M),(14,y i)],[(1002000,.vec 142 ao o)],20,[]⟩) (wk ⟨sR J,sR J,sR J,sR J,sE J ?_,sR J,sR J,ll⟩ ⟨bR J,ll⟩) ?_
    .exact bY m
    refine e J (hp:=aH)<|rt J (hp:=aH)<|bU<|rt J<|a6 (i+1,o.set i<|(4294967296+I a i 0-I b i 0-f)%4294967296,1-(4294967296+I a i 0-I b i 0-f)/4294967296) n yY<|wk ⟨sR J,sR J,sR J,sE J ?_,sR J,sR J,ll⟩ ⟨bE J ?_,ll⟩
    .refine bY ?_;show d.fdiv (2^(min (ah ((63:G):V))<|dj .u64))=1-(4294967296+I a i 0-I b i 0-f)/4294967296;rw[Bg d 63 Y];omega
    .refine bl (aC.vec 142 ao) ?_;show o.set (ah (i:V)) (ay .u32 d)=o.set i ((4294967296+I a i 0-I b i 0-f)%4294967296);rw[cx,zb];exact bl (o.set i) Y
   .have h2:¬i<Z b:=by have h2:¬(i:V)<(Z b:V):=bh h2;omega
    have K:I b i 0=0:=VJ;refine aG ?_;have m:ay .u64 (ay .u64 (I a (ah (i:V)) 0)-f)=(I a i 0-I b i 0-f)%18446744073709551616:=by rw[cx,r9,r9];omega
    generalize H:(I a i 0-I b i 0-f)%18446744073709551616=d at m;refine fg (st':=⟨[(0,S ao a),(1,S ao b),(5,.c<|.X 1002000),(7,y i),(8,cU d),(13,y M),(14,y i)],[(1002000,.vec 142 ao o)],20,[]⟩) (wk ⟨sR J,sR J,sR J,sR J,sE J ?_,sR J,sR J,ll⟩ ⟨bR J,ll⟩) ?_
    .exact bY m
    refine e J (hp:=aH)<|rt J (hp:=aH)<|bU<|rt J<|a6 (i+1,o.set i<|(4294967296+I a i 0-I b i 0-f)%4294967296,1-(4294967296+I a i 0-I b i 0-f)/4294967296) n yY<|wk ⟨sR J,sR J,sR J,sE J ?_,sR J,sR J,ll⟩ ⟨bE J ?_,ll⟩
    .refine bY ?_;show d.fdiv (2^(min (ah ((63:G):V))<|dj .u64))=1-(4294967296+I a i 0-I b i 0-f)/4294967296;rw[Bg d 63 Y];omega
    .refine bl (aC.vec 142 ao) ?_;show o.set (ah (i:V)) (ay .u32 d)=o.set i ((4294967296+I a i 0-I b i 0-f)%4294967296);rw[cx,zb];exact bl (o.set i) Y
  .have g:¬i<M:=by have g:¬(i:V)<(M:V):=bh g;omega
   have u:i=M:=Y;subst u;refine bD<|aR<|dm 1002000 J J J<|w ?_;refine rc J J (xI _)<|O J<|cd J ?_;have z:cc o:=k.r;have A:val o-f*4294967296^i=val (c i a)-val (c i b):=k.v;rw[nM a i Y,nM b i Y]at A;have N:f=0:=by
    have P:=ov z;rw[l]at P;rcases(Y:f=0\/f=1)with p|p
    .exact p
    .subst p;omega
   subst N;rw[qF z,<-A];simp
def V4 m k(a:k<=m)(b:Z (R m)<=1099511627776):aq r 162 [S ao (R m),S ao<|R k] (S ao<|R<|m-k):=by have:=ap4 (R m) (R k) (eO m) (eO k) (uE a) (by rw[fa,fa];omega) b;rw[fa,fa,(Y:ah ((m:V)-(k:V))=m-k)]at this;exact this
def ap5 d f m k(l:Z (R m)<=1099511627776)(n:Z (R k)<=1099511627776):aq r 130 [.a [.B d,.S ao<|R m],.a [.B f,.S ao<|R k]] (aZ<|sg d m+sg f k):=by
 refine aS Tryz.func130 ?_;refine e J<|h<|e J ?_;refine F J (λg=>?_)<|λg=>?_
 .have g:d=f:=eS g;subst g;refine w<|rc J J (adM _ _ l n)<|rc J J (qL _ _)<|O J<|bX<|da<|fO J ?_;have i:sg d (m+k)=sg d m+sg d k:=by unfold sg;split<;>omega
  exact bl aZ i
 .have g:d≠f:=λp=>by subst p;simp at g
  refine aG<|h<|bL J J (Pq _ _) J ?_;refine F J (λb=>?_)<|λb=>?_
  .have b:k<=m:=by have b:eE (m:V) (k:V)>=0:=aX b;unfold eE at b;split at b<;>omega
   refine w<|rc J J (V4 _ _ b l)<|rc J J (qL _ _)<|O J<|bX<|da<|fO J ?_;have i:sg d (m-k)=sg d m+sg f k:=by unfold sg;cases d<;>cases f<;>simp at g⊢<;>omega
   exact bl aZ i
  .have b:m<=k:=by
    have b:¬eE (m:V) (k:V)>=0:=bh b;unfold eE at b;split at b
    .omega
    .split at b<;>omega
   refine aG<|w<|rc J J (V4 _ _ b n)<|rc J J (qL _ _)<|O J<|cd J ?_;have i:sg f (k-m)=sg d m+sg f k:=by unfold sg;cases d<;>cases f<;>simp at g⊢<;>omega
   exact bl aZ i
def ap6 a b(d:Sm a)(f:Sm b):aq r 130 [aZ a,aZ b] (aZ<|a+b):=by have h:=ap5 (cv a) (cv b) (aD a) (aD b) d f;rw[A',A']at h;exact h
def pa{x a:V}(h:(x==a)=ak):x≠a:=eQ
def ap7 g v a n(hU:cc g)(hv:cc v)(hn:Z v=n+2)(hj:a+n+3<=Z g)(hl:Z g<=1099511627777)(ap8:2147483648<=I v (n+1) 0)(jw:val ((az a g).take<|n+3)<val v*4294967296):
  vX Tryz.prog 225 [.c (.W 0 a<|n+3),S ao v] 142 ao g (cW<|val ((az a g).take<|n+3)/val v) (df g a<|b7 (n+3)<|val ((az a g).take<|n+3)%val v):=by
 refine JP Tryz.func225 J J J J J o ?_
 have K:=ad1 hU hv hn hj ap8 jw
 have g1:=dv hU<|a+(n+2)
 have g2:=dv hU<|a+(n+1)
 have g3:=dv hU<|a+n
 have k1:=dv hv<|n+1
 have k2:=dv hv n
 have pV:=K.pV
 have hvp:=K.GJ
 have a1:ah ((Z v:V))=n+2:=Y
 have a2:ah ((Z v:V)-1)=n+1:=Y
 have a3:ah ((Z v:V)-2)=n:=Y
 generalize hQ:th 2 ((I g (a+(n+2)) 0*4294967296+I g (a+(n+1)) 0)/I v (n+1) 0) ((I g (a+(n+2)) 0*4294967296+I g (a+(n+1)) 0)%I v (n+1) 0) (I v (n+1) 0) (I v n 0) (I g (a+n) 0)=k
 refine e J<|e J<|e J (hp:=aH) ?_
 rw[a1,a2]
 have e6:ay .u64 ((jI (dj .u64) (ay .u64<|ay .u64 (I g (a+(n+2)) 0)*2^(min (ah ((32:G):V))<|dj .u64))|||jI (dj .u64) (ay .u64<|I g (a+(n+1)) 0)).toNat:V)=I g (a+(n+2)) 0*4294967296+I g (a+(n+1)) 0:=by rw[be (I g (a+(n+2)) 0) Y Y,be (I g (a+(n+1)) 0) Y Y,Bf _ 32 Y Y Y,Dx _ _ 32 Y (GU _ _) Y Y Y,show(2:V)^32=4294967296 from J]
 have ev1:ay .u64 (I v (n+1) 0)=I v (n+1) 0:=be _ Y Y
 have ev2:ay .u64 (I v n 0)=I v n 0:=be _ Y Y
 have eu2:ay .u64 (I g (a+n) 0)=I g (a+n) 0:=be _ Y Y
 have N:0<=I g (a+(n+2)) 0*4294967296+I g (a+(n+1)) 0:=Y
 have ht1:I g (a+(n+2)) 0*4294967296+I g (a+(n+1)) 0<18446744073709551616:=Y
 have JA:=@Kn1.small _ _ _ _ _ _ _ _ _ K
 have dn:=@O4 _ _ _ _ _ _ _ _ _ K
 have hfi:=K.first
 have Ka:=K.q0
 refine fg (st':=⟨[(0,.c<|.W 0 a<|n+3),(1,S ao v),(5,y<|Z v),(6,cU<|I g (a+(n+2)) 0*4294967296+I g (a+(n+1)) 0)],[(0,.vec 142 ao g)],4,[]⟩) (wk ⟨sR J,sR J,sR J,sE J ?_,M⟩ ⟨bR J,M⟩) ?_
 .exact bY e6
 generalize I g (a+(n+2)) 0*4294967296+I g (a+(n+1)) 0=t at*
 generalize VX:I v (n+1) 0=v1 at*
 generalize aqc:I v n 0=v2 at*
 generalize aqd:I g (a+n) 0=u2 at*
 generalize hue:val ((az a g).take<|n+3)=u at*
 have x1:ay .u64 (I v (ah<|(Z v:V)-1) 0)=v1:=by rw[a2,VX];exact ev1
 have x2:ay .u64 (I v (ah<|(Z v:V)-2) 0)=v2:=by rw[a3,aqc];exact ev2
 have x3:ay .u64 (I g (a+ah ((Z v:V)-2)) 0)=u2:=by rw[a3,aqd];exact eu2
 have hd0:0<=t/v1:=Bb N Y
 have Pj:0<=t%v1:=jq _ Y
 have s8:t%v1<v1:=jr _ Y
 have cC:=o9 t v1
 have T:((-9223372036854775808<=(Z v:V)-1/\(Z v:V)-1<=9223372036854775807)/\0<=(Z v:V)-1/\(Z v:V)-1<(Z v:V))/\ay .u64 (I v (ah<|(Z v:V)-1) 0)≠0:=by rw[x1];omega
 have hQq:=dn 2 (t/v1) (t%v1) (by rw[fo];omega) Pj Y VL hfi
 rw[hQ]at hQq
 let ⟨q1,q2,q3⟩:=hQq
 refine e J (hp:=by simp only[Pr.an,Pr.h,num,gy,true_and,and_true];exact⟨⟨⟨T,T.1.1⟩,T.1.2⟩,T.2⟩) ?_
 refine nP ⟨[(0,.c<|.W 0 a<|n+3),(1,S ao v),(5,y<|Z v),(7,cU k)],[(0,.vec 142 ao g)],30,[]⟩ ?_<|λL=>aA<|bx (α:=G×V×V) (λx=>⟨[(0,.c<|.W 0 a<|n+3),(1,S ao v),(5,y<|Z v),(6,cU t),(7,cU x.2.1),(8,cU x.2.2)],[(0,.vec 142 ao g)],6,[]⟩) (λx=>th x.1 x.2.1 x.2.2 v1 v2 u2=k/\t=x.2.1*v1+x.2.2/\0<=x.2.2/\x.2.2<4294967296/\4294967296<=x.2.2+x.1*2147483648/\u/val v<=x.2.1) (λx=>x.1) (2,t/v1,t%v1) ⟨hQ,by show t=t/v1*v1+t%v1;rw[fo];omega,Pj,(Y:t%v1<4294967296),VL,hfi⟩ (wk ⟨sR J,sR J,sR J,sR J,sE J ?_,sE J ?_,M⟩ ⟨bR J,M⟩) ?_
 .clear dn JA hQ;refine e J<|bA<|e J ?_;refine aA (bx (α:=G×V×V) (λx=>⟨[(0,.c<|.W 0 a<|n+3),(1,S ao v),(5,y<|Z v),(7,cU k),(9,cU x.2.1),(10,cU x.2.2),(82,y<|Z v),(83,y x.1)],[(0,.vec 142 ao<|df g a<|b7 x.1<|val ((az a g).take x.1)-k*val (c x.1 v))],32,[]⟩) (λx=>x.1<=n+2/\(val ((az a g).take x.1)-k*val (c x.1 v))/4294967296^x.1= -(x.2.1+x.2.2)/\x.2.1=k*val (c x.1 v)/4294967296^x.1/\(x.2.2=0\/x.2.2=1)) (λx=>n+2-x.1) (0,0,0) ⟨bm _,y4,y4,.inl J⟩ (wk (bP J) ⟨bE J ?_,M⟩) ?_)
  .exact bl (aC.vec 142 ao) (Pb g a).symm
  rintro⟨i,B,b⟩ ⟨H,h2,R,h4⟩;simp only at H h2 R h4;have l:=adZ hv (Y:0<=k) q3 i;rw[<-R]at l;have gu:=dv hU<|a+i;have P:=adX g v a i k (c:=B) (b:=b) J h2;have Q:Z (b7 i<|val ((az a g).take i)-k*val (c i v))=i:=uF _ _;have xD:=y' (U:=g) (j:=a) (ws:=b7 i<|val ((az a g).take i)-k*val (c i v)) Y;have C:=Pc (U:=g) (j:=a) (ws:=b7 i<|val ((az a g).take i)-k*val (c i v)) Y;have D:=λV5=>Pe (U:=g) (j:=a) (ws:=b7 i<|val ((az a g).take i)-k*val (c i v)) V5 Y
  rw[Q]at C D;simp only at P;let ⟨s1,s2⟩:=P;refine e J<|bA ?_;refine F J (λh=>?_)<|λh=>?_
  .have h:i<n+2:=by have h:(i:V)<(Z v:V):=aX h;omega
   have gv:=dv hv i;have hm:0<=k*I v i 0/\k*I v i 0<=18446744065119617025:=J4 Y Y gv.1 Y;have Ti:=ad0 (v:=v) (q:=k) i R;refine aG<|bA<|aA<|e J<|e J (hp:=aH) ?_;have ei:ah (i:V)=i:=cx i;have E:ay .u64 (ay .u64 (k*ay .u64 (I v (ah (i:V)) 0))+B)=k*I v i 0+B:=by rw[ei,be (I v i 0) Y Y,be (k*I v i 0) Y Y,be _ Y Y]
   generalize hp:k*I v i 0+B=p at*;refine fg (st':=⟨[(0,.c<|.W 0 a<|n+3),(1,S ao v),(5,y<|Z v),(7,cU k),(10,cU b),(11,y i),(12,cU p),(82,y<|Z v),(83,y i)],[(0,.vec 142 ao<|df g a<|b7 i<|val ((az a g).take i)-k*val (c i v))],40,[]⟩) (wk ⟨sR J,sR J,sR J,sR J,sR J,sR J,sE J ?_,sR J,sR J,M⟩ ⟨bR J,M⟩) ?_
   .exact bY E
   generalize hX:df g a (b7 i<|val ((az a g).take i)-k*val (c i v))=X at*;refine e J<|e J (hp:=aH) ?_;have w2:p.fdiv (2^(min (ah ((32:G):V))<|dj .u64))=p/4294967296:=Bg p 32 Y;have w3:ay .u64 (ay .u64 (ay .u64 (X.getD (a+ah (i:V)) 0)-ay .u64 (ay .u32 p))-b)=(I g (a+i) 0-p%4294967296-b)%18446744073709551616:=by rw[ei,C,r9,r9,r9,r9,zb];omega
   generalize hd:(I g (a+i) 0-p%4294967296-b)%18446744073709551616=d at*;refine fg (st':=⟨[(0,.c<|.W 0 a<|n+3),(1,S ao v),(5,y<|Z v),(7,cU k),(9,cU<|p/4294967296),(11,y i),(13,cU d),(82,y<|Z v),(83,y i)],[(0,.vec 142 ao X)],44,[]⟩) (wk ⟨sR J,sR J,sR J,sR J,sE J ?_,sR J,sE J ?_,sR J,sR J,M⟩ ⟨bR J,M⟩) ?_
   .exact bY w2
   .exact bY w3
   refine e J (hp:=aH)<|rt J (hp:=aH)<|bU<|rt J<|a6 (i+1,p/4294967296,1-(4294967296+I g (a+i) 0-p%4294967296-b)/4294967296) ⟨(Y:i+1<=n+2),s2,Ti.symm,(Y:1-(4294967296+I g (a+i) 0-p%4294967296-b)/4294967296=0\/1-(4294967296+I g (a+i) 0-p%4294967296-b)/4294967296=1)⟩ (Y:n+2-(i+1)<n+2-i)<|wk ⟨sR J,sR J,sR J,sR J,sR J,sE J ?_,sR J,sR J,M⟩ ⟨bE J ?_,M⟩
   .refine bY ?_;show d.fdiv (2^(min (ah ((63:G):V))<|dj .u64))=1-(4294967296+I g (a+i) 0-p%4294967296-b)/4294967296;rw[Bg d 63 Y];omega
   .refine bl (aC.vec 142 ao) ?_;show X.set (a+ah (i:V)) (ay .u32 d)=df g a (b7 (i+1) _);rw[s1,ei,zb,(Y:d%4294967296=(4294967296+I g (a+i) 0-p%4294967296-b)%4294967296),D]
  .have cJ:i=n+2:=by have h:¬(i:V)<(Z v:V):=bh h;omega
   subst cJ;have Bd:I v (n+2) 0=0:=by simp[aO,jB (Y:Z v<=n+2)]
   rw[Bd,iy,Dz,ix l.1 l.2,GG l.1 l.2,Dz,nM v (n+2+1) Y,hue]at s2;rw[Bd,iy,Dz,ix l.1 l.2,nM v (n+2+1) Y,hue]at s1;generalize hX:df g a (b7 (n+2)<|val ((az a g).take<|n+2)-k*val (c (n+2) v))=X at*;refine bD<|aR<|e J (hp:=aH) ?_;have w3:ay .u64 (ay .u64 (ay .u64 (X.getD (a+(Z v:V).toNat) 0)-B)-b)=(I g (a+(n+2)) 0-B-b)%18446744073709551616:=by rw[a1,C,r9,r9,r9];omega
   generalize hd:(I g (a+(n+2)) 0-B-b)%18446744073709551616=d at*;refine fg (st':=⟨[(0,.c<|.W 0 a<|n+3),(1,S ao v),(5,y<|Z v),(7,cU k),(14,cU d)],[(0,.vec 142 ao X)],44,[]⟩) (wk ⟨sR J,sR J,sR J,sR J,sE J ?_,M⟩ ⟨bR J,M⟩) ?_
   .exact bY w3
   refine e J (hp:=aH)<|bA<|e J (hp:=aH) ?_;have V6:X.set (a+(Z v:V).toNat) (ay .u32 d)=df g a (b7 (n+3)<|u-k*val v):=by rw[a1,show n+3=n+2+1 from J,s1,zb,(Y:d%4294967296=(4294967296+I g (a+(n+2)) 0-B-b)%4294967296),D]
   have za:d.fdiv (2^(min (ah ((63:G):V))<|dj .u64))=1-(4294967296+I g (a+(n+2)) 0-B-b)/4294967296:=by rw[Bg d 63 Y];omega
   generalize Jj:1-(4294967296+I g (a+(n+2)) 0-B-b)/4294967296=b' at*;have ayK:b'=0\/b'=1:=Y;have GO:=o9 u<|val v;have Jt:=jq u (Y:val v≠0);have A3:=jr u hvp;have hpn:=kS<|n+2+1;have h5:=o9 (u-k*val v)<|4294967296^(n+2+1);have h6:=jq (u-k*val v) (Y:(4294967296:V)^(n+2+1)≠0);have m:=jr (u-k*val v) hpn;rw[s2]at h5;refine F J (λA=>?_)<|λA=>?_
   .have A:b'=0:=by have A:d.fdiv (2^(min (ah ((63:G):V))<|dj .u64))=0:=eS A;rw[<-za];exact A
    have hq:k=u/val v:=by
     rw[A]at h5;simp only[Int.neg_zero,iy,tf]at h5;by_cases cJ:k=u/val v
     .exact cJ
     .exfalso;have e2:k=u/val v+1:=Y;have VY:k*val v=val v*(u/val v)+val v:=by rw[e2,o0,mc,fo]
      omega
    have e1:u-k*val v=u%val v:=by have:=fo (u/val v)<|val v;rw[hq];omega
    refine e J<|bX ?_;repeat(first|refine da ?_|refine mz ?_|refine m0 ?_)
    refine MQ (st':=⟨[(4,cW<|u/val v)],[(0,.vec 142 ao<|df g a<|b7 (n+3)<|u%val v)],60,[]⟩) (wk ⟨sE J ?_,M⟩ ⟨bE J ?_,M⟩)<|AZ cp J (bq.refl _) J
    .refine Fo ?_;rw[nO _ Y Y];exact hq
    .rw[V6,e1]
   .have A:b'=1:=by have A:¬d.fdiv (2^(min (ah ((63:G):V))<|dj .u64))=0:=pa A;rw[za]at A;omega
    have hq:k=u/val v+1:=by
     rw[A]at h5;rw[Int.mul_neg,oy]at h5;by_cases cJ:k=u/val v
     .exfalso;have:k*val v=val v*(u/val v):=by rw[cJ,fo]
      omega
     .omega
    have VY:k*val v=val v*(u/val v)+val v:=by rw[hq,o0,mc,fo]
    refine aG ?_;refine fg (st':=⟨[(0,.c<|.W 0 a<|n+3),(1,S ao v),(5,y<|Z v),(7,cU k)],[(0,.vec 142 ao<|df g a<|b7 (n+3)<|u-k*val v)],50,[]⟩) (wk (bP J) ⟨bE J ?_,M⟩) ?_
    .rw[V6]
    have GP:∀x,Z (b7 (n+3) x)=n+3:=λx=>uF _ _
    have hU1:cc (df g a<|b7 (n+3)<|u-k*val v):=VP hU<|Kb _ _;have ayL:Z (df g a<|b7 (n+3)<|u-k*val v)=Z g:=y' wi;have aqh:df (df g a<|b7 (n+3)<|u-k*val v) a (b7 (n+3)<|val (c (n+3)<|az a<|df g a<|b7 (n+3)<|u-k*val v)+val v)=df g a (b7 (n+3)<|u%val v):=by rw[ad3 wi (by rw[GP,GP]),VQ wi,yo wi,jy wi,Kc];refine bl (df g a)<|Pa _ _ _ ?_;rw[Int.emod_add_emod];congr 1;omega
    generalize df g a (b7 (n+3)<|u-k*val v)=z at*;clear V6 za Jj s1 s2 D C hX;refine e J<|bA<|e J ?_;refine aA<|bx (α:=G×V) (λx=>⟨[(0,.c<|.W 0 a<|n+3),(1,S ao v),(5,y<|Z v),(7,cU k),(9,cU x.2),(135,y<|Z v),(136,y x.1)],[(0,.vec 142 ao<|df z a<|b7 x.1<|val ((az a z).take x.1)+val (c x.1 v))],60,[]⟩) (λx=>x.1<=n+2/\(val ((az a z).take x.1)+val (c x.1 v))/4294967296^x.1=x.2/\(x.2=0\/x.2=1)) (λx=>n+2-x.1) (0,0) ⟨bm _,y4,.inl J⟩ (wk (bP J) ⟨bE J ?_,M⟩) ?_
    .exact bl (aC.vec 142 ao) (Pb z a).symm
    rintro⟨i,B⟩ ⟨H,h2,h4⟩;simp only at H h2 h4;have gu:=dv hU1<|a+i;have P:=adY z v a i (c:=B) J h2;simp only at P;let ⟨s1,s2⟩:=P;have Q:Z (b7 i<|val ((az a z).take i)+val (c i v))=i:=uF _ _;have xD:=y' (U:=z) (j:=a) (ws:=b7 i<|val ((az a z).take i)+val (c i v)) Y;have C:=Pc (U:=z) (j:=a) (ws:=b7 i<|val ((az a z).take i)+val (c i v)) Y;have D:=λV5=>Pe (U:=z) (j:=a) (ws:=b7 i<|val ((az a z).take i)+val (c i v)) V5 Y
    rw[Q]at C D;refine e J<|bA ?_;refine F J (λh=>?_)<|λh=>?_
    .have h:i<n+2:=by have h:(i:V)<(Z v:V):=aX h;omega
     have gv:=dv hv i;generalize hX:df z a (b7 i<|val ((az a z).take i)+val (c i v))=X at*;have ei:ah (i:V)=i:=cx i;refine aG<|bA<|aA<|e J<|e J (hp:=aH) ?_;have E:ay .u64 (ay .u64 (ay .u64 (X.getD (a+ah (i:V)) 0)+ay .u64 (I v (ah (i:V)) 0))+B)=I z (a+i) 0+I v i 0+B:=by rw[ei,C,be (I z (a+i) 0) Y Y,be (I v i 0) Y Y,be (_+I v i 0) Y Y,be _ Y Y]
     generalize ht:I z (a+i) 0+I v i 0+B=s at*;have N:0<=s/\s<8589934592:=Y;refine fg (st':=⟨[(0,.c<|.W 0 a<|n+3),(1,S ao v),(5,y<|Z v),(7,cU k),(15,y i),(16,cU s),(135,y<|Z v),(136,y i)],[(0,.vec 142 ao X)],70,[]⟩) (wk ⟨sR J,sR J,sR J,sR J,sR J,sE J ?_,sR J,sR J,M⟩ ⟨bR J,M⟩) ?_
     .exact bY E
     refine e J (hp:=aH)<|rt J (hp:=aH)<|bU<|rt J<|a6 (i+1,s/4294967296) ⟨(Y:i+1<=n+2),s2,(Y:s/4294967296=0\/s/4294967296=1)⟩ (Y:n+2-(i+1)<n+2-i)<|wk ⟨sR J,sR J,sR J,sR J,sE J ?_,sR J,sR J,M⟩ ⟨bE J ?_,M⟩
     .exact bY<|Bg s 32 Y
     .refine bl (aC.vec 142 ao) ?_;show X.set (a+ah (i:V)) (ay .u32 s)=df z a (b7 (i+1) _);rw[s1,ei,zb,D]
    .have cJ:i=n+2:=by have h:¬(i:V)<(Z v:V):=bh h;omega
     subst cJ;rw[Bd,tf,nM v (n+2+1) Y]at s1;generalize hX:df z a (b7 (n+2)<|val ((az a z).take<|n+2)+val (c (n+2) v))=X at*;refine bD<|aR<|e J (hp:=aH)<|e J<|bX ?_;refine MQ (st':=⟨[(4,cW<|u/val v)],[(0,.vec 142 ao<|df g a<|b7 (n+3)<|u%val v)],90,[]⟩) (wk ⟨sE J ?_,M⟩ ⟨bE J ?_,M⟩)<|AZ cp J (bq.refl _) J
     .refine Fo ?_;rw[r9,zb];omega
     .refine bl (aC.vec 142 ao) ?_;rw[<-aqh,show n+3=n+2+1 from J,s1,a1,C,zb,zb,(Y:(I z (a+(n+2)) 0+B%4294967296)%4294967296=(I z (a+(n+2)) 0+B)%4294967296),D]
 .refine bY ?_;show ay .u64 (t.tdiv<|ay .u64<|I v (ah<|(Z v:V)-1) 0)=t/v1;have:=Int.ediv_le_self v1 N;rw[x1,GL N,be _ hd0 Y]
 .refine bY ?_;show(t.tmod<|ay .u64<|I v (ah<|(Z v:V)-1) 0)=t%v1;rw[x1,J' N]
 .rintro⟨f,q,r⟩ ⟨H,h2,R,h4,h5,h6⟩;simp only at H h2 R h4 h5 h6;have hqs:=JA h2 R;cases f with
  |zero=>omega
  |succ f=>
  rw[th]at H;have A3:0<=q*v2/\q*v2<18446744073709551616:=by refine⟨ku Y Y,?_⟩;have:q*v2<=4294967297*4294967295:=y8 Y Y Y o;omega
  refine bA<|w<|rg 50 J J (λh=>?_)<|λh=>?_
  .have hqB:q>=4294967296:=by simpa using h
   have l:q>=4294967296\/q*v2>r*4294967296+u2:= .inl hqB;refine O J (F J (λ_=>?_)<|λm=>by cases m);have jw:u/val v<q:=by
    rcases l with l|l
    .have:=K.GK;omega
    .exact K.down h2 Y l
   have E:ay .u64 (q-1)=q-1:=be _ Y Y;have w2:ay .u64 (r+ay .u64 (I v (ah<|(Z v:V)-1) 0))=r+v1:=by rw[x1,be _ Y Y]
   refine aG<|aA<|e J<|e J (hp:=aH)<|e J<|F J (λm=>?_)<|λm=>?_
   .have m:r+v1>=4294967296:=by have m:ay .u64 (r+ay .u64 (I v (ah<|(Z v:V)-1) 0))>=4294967296:=aX m;omega
    rw[gT l,gT m]at H;refine oc<|IF<|oS<|oe<|fp L<|wk ⟨sR J,sR J,sR J,sE J ?_,M⟩ ⟨bR J,M⟩;refine bY ?_;rw[<-H];exact E
   .have m:¬r+v1>=4294967296:=by have m:¬ay .u64 (r+ay .u64 (I v (ah<|(Z v:V)-1) 0))>=4294967296:=bh m;omega
    rw[gT l,j m]at H;refine dk<|fT<|a6 (f,q-1,r+v1) ⟨H,O5,O6,O7,O8,O9⟩ (dO f)<|wk ⟨sR J,sR J,sR J,sR J,sE J ?_,sE J ?_,M⟩ ⟨bR J,M⟩
    .exact bY E
    .exact bY w2
  .have hqB:¬q>=4294967296:=by have:q<4294967296:=eQ;omega
   have w3:ay .u64 (q*ay .u64 (I v (ah<|(Z v:V)-2) 0))=q*v2:=by rw[x2,be _ A3.1 A3.2]
   have w4:ay .u64 ((jI (dj .u64) (ay .u64<|r*2^(min (ah ((32:G):V))<|dj .u64))|||jI (dj .u64) (ay .u64<|I g (a+ah ((Z v:V)-2)) 0)).toNat:V)=r*4294967296+u2:=by rw[x3,Bf r 32 R Y Y,Dx _ _ 32 Y (GU _ _) Y Y Y,show(2:V)^32=4294967296 from J]
   refine O J (hp:=aH)<|F J (λA=>?_)<|λA=>?_
   .have l:q>=4294967296\/q*v2>r*4294967296+u2:= .inr (by have A:ay .u64 (q*ay .u64 (I v (ah<|(Z v:V)-2) 0))>ay .u64 ((jI (dj .u64) (ay .u64<|r*2^(min (ah ((32:G):V))<|dj .u64))|||jI (dj .u64) (ay .u64<|I g (a+ah ((Z v:V)-2)) 0)).toNat:V):=aX A;rw[w3,w4]at A;exact A);have jw:u/val v<q:=by
     rcases l with l|l
     .have:=K.GK;omega
     .exact K.down h2 Y l
    have E:ay .u64 (q-1)=q-1:=be _ Y Y;have w2:ay .u64 (r+ay .u64 (I v (ah<|(Z v:V)-1) 0))=r+v1:=by rw[x1,be _ Y Y]
    refine aG<|aA<|e J<|e J (hp:=aH)<|e J<|F J (λm=>?_)<|λm=>?_
    .have m:r+v1>=4294967296:=by have m:ay .u64 (r+ay .u64 (I v (ah<|(Z v:V)-1) 0))>=4294967296:=aX m;omega
     rw[gT l,gT m]at H;refine oc<|IF<|oS<|oe<|fp L<|wk ⟨sR J,sR J,sR J,sE J ?_,M⟩ ⟨bR J,M⟩;refine bY ?_;rw[<-H];exact E
    .have m:¬r+v1>=4294967296:=by have m:¬ay .u64 (r+ay .u64 (I v (ah<|(Z v:V)-1) 0))>=4294967296:=bh m;omega
     rw[gT l,j m]at H;refine dk<|fT<|a6 (f,q-1,r+v1) ⟨H,O5,O6,O7,O8,O9⟩ (dO f)<|wk ⟨sR J,sR J,sR J,sR J,sE J ?_,sE J ?_,M⟩ ⟨bR J,M⟩
     .exact bY E
     .exact bY w2
   .have l:¬(q>=4294967296\/q*v2>r*4294967296+u2):=by have A:¬ay .u64 (q*ay .u64 (I v (ah<|(Z v:V)-2) 0))>ay .u64 ((jI (dj .u64) (ay .u64<|r*2^(min (ah ((32:G):V))<|dj .u64))|||jI (dj .u64) (ay .u64<|I g (a+ah ((Z v:V)-2)) 0)).toNat:V):=bh A;rw[w3,w4]at A;omega
    rw[j l]at H;subst H;exact bD<|fp L aY
def ze m:aq r 188 [S ao (R m)] (S ao<|R m):=by have h:=xI<|R m;rwa[Vs]at h
def aqi{k n}(A:Z (R k)=n+2){x s:G}(ex:(x:V)=I (R k) (n+1) 0)(B:2147483648<=x*2^s)(d:x*2^s<4294967296)(H:s<=31):
  ((k*2^s:G):V)<4294967296^(n+2)/\Z (R<|k*2^s)=n+2/\2147483648<=I (R<|k*2^s) (n+1) 0:=by
 have i:0<2^s:=ko o
 have l:(x+1)*2^s<=4294967296:=by
  have e:4294967296=2^(32-s)*2^s:=by rw[<-kv,(Y:32-s+s=32)]
  have:x<2^(32-s):=by rw[e]at d;exact Nat.lt_of_mul_lt_mul_right d
  rw[e];exact eB _ this
 generalize p:2^s=D at*
 have f:=lA (R k)<|n+1
 rw[nM _ _ (Y:Z (R k)<=n+1+1),fa,<-ex]at f
 have t:=ov<|jN (eO k)<|n+1
 rw[(b6:Z (c (n+1)<|R k)=n+1)]at t
 have C:=nb<|jN (eO k)<|n+1
 have K:=kS<|n+1
 generalize val (c (n+1)<|R k)=u at*
 have a:((x:V)+1)*(D:V)<=4294967296:=by have:(((x+1)*D:G):V)<=((4294967296:G):V):=Y;rw[fP,y5]at this;exact this
 have g:((k*D:G):V)<4294967296^(n+2):=by
  rw[fP,qM,f];have N:(u+(x:V)*4294967296^(n+1))*D<(((x:V)+1)*4294967296^(n+1))*D:=Kd (by rw[o0,mc];omega) Y;have P:((x:V)+1)*4294967296^(n+1)*D=4294967296^(n+1)*(((x:V)+1)*D):=by generalize (4294967296:V)^(n+1)=y;grind
  have Q:4294967296^(n+1)*(((x:V)+1)*D)<=4294967296^(n+1)*4294967296:=l6 a Y;omega
 have v:Z (R<|k*D)=n+2:=by have T:Z (R<|k*D)<=n+2:=Dj g;have W:=uE (m:=k) (k:=k*D)<|Ke _ i;omega
 refine⟨g,v,?_⟩
 have b:=lA (R<|k*D)<|n+1
 rw[nM _ _ (Y:Z (R<|k*D)<=n+1+1),fa]at b
 have z:=ov<|jN (eO<|k*D)<|n+1
 rw[(b6:Z (c (n+1)<|R<|k*D)=n+1)]at z
 generalize I (R<|k*D) (n+1) 0=c1 at*
 generalize val (c (n+1)<|R<|k*D)=X at*
 by_cases e:2147483648<=c1
 .exact e
 .exfalso;have h:(c1+1)*4294967296^(n+1)<=(x:V)*D*4294967296^(n+1):=iE Y Y;have j:(x:V)*4294967296^(n+1)*D<=(k:V)*D:=iE Y Y;have q:(x:V)*4294967296^(n+1)*D=(x:V)*D*4294967296^(n+1):=by generalize (4294967296:V)^(n+1)=y;grind
  have r:(c1+1)*4294967296^(n+1)=c1*4294967296^(n+1)+4294967296^(n+1):=J8;rw[fP]at b;omega
def aqj m k n(d:Z (R k)=n+2)(nt:k<=m)(lm:Z (R m)<=1099511627776):aq r 190 [S ao (R m),S ao<|R k] (.t [(ak,[.S ao (R<|m/k)]),(ak,[.S ao (R<|m%k)])]):=by
 refine aS aef ?_;have Jf:=dv (eO k)<|n+1;have C6:I (R k) (n+1) 0≠0:=by
  rcases xH k with f|f
  .rw[f]at d;simp at d
  .rw[d]at f;exact f
 obtain⟨x,ex⟩:∃x:G,(x:V)=I (R k) (n+1) 0:=⟨ah<|I (R k) (n+1) 0,xp Jf.1⟩;let ⟨s,hlz,P,x1,x2⟩:=apX x Y Y;let ⟨f5,f6,f7⟩:=aqi d ex x1 x2 P;have hD:0<2^s:=ko o;have hD2:2^s<=2^31:=eU o P;have D:(2:V)^s=((2^s:G):V):=ax;have og:0<k:=by
  rcases r8 k with f|f
  .subst f;rw[GA]at d;simp at d
  .exact f
 have hla:n+2<=Z (R m):=by rw[<-d];exact uE nt
 obtain⟨a,hM⟩:∃a,Z (R m)=a+(n+2):=⟨Z (R m)-(n+2),Y⟩;have VU:((m*2^s:G):V)<4294967296^(a+(n+2)+1):=by have K:=wa (n:=m);rw[hM]at K;rw[qM,fP];have:=kS<|a+(n+2);have h2:(m:V)*((2^s:G):V)<=(m:V)*4294967296:=l6 Y Y;omega
 have T:¬eE (m:V) (k:V)<0:=by unfold eE;rw[j Y];split<;>decide
 have W:=aea (R m) s (eO m) P lm;have q:=(aea (R k) s (eO k) P Y).fs;have qC:=wa (n:=k);rw[d]at qC;rw[fa,d,D,<-fP]at q;rw[fa,D,<-fP,hM]at W;have hVt:c (n+2) (b7 (n+2+1) ((k*2^s:G):V))=R (k*2^s):=by have:=adV<|eO<|k*2^s;rw[f6,fa]at this;rw[GM,List.take_left'<|uF _ _,this]
 refine e J<|w<|rc J J (ze m)<|rc J J (ze k)<|O J ?_;refine h<|bL J J (Pq m k) J<|F J (λl=>aJ (aX l) T)<|λ_=>aG ?_;refine h<|e J<|F J (λl=>?_)<|λ_=>aG ?_
 .exfalso;have l:(Z (R k):V)=1:=eS l;omega
 have a2:ah ((Z (R k):V)-1)=n+1:=Y;have L:aq r 223 [cW (I (R k) (ah<|(Z (R k):V)-1) 0)] (y s):=by rw[a2,<-ex];exact hlz
 refine e J<|w<|rc J J L<|O J (hp:=aH) ?_;refine w<|De J J W<|O J ?_;refine w<|rc J J q<|O J (hp:=by simp only[Pr.an,Pr.h,num,gy,true_and,and_true];rw[uF];omega) ?_;refine w<|rm ao (a+1) J J J J J J (nJ .u32) Y ?_ ?_<|O J ?_
 .show _*4<=_;omega
 .show _*1<=_;omega
 generalize H:b7 (a+(n+2)+1) ((m*2^s:G):V)=p;have A:val p=((m*2^s:G):V):=by rw[<-H,Kc,ix Y VU]
 have B:cc p:=by rw[<-H];exact Kb _ _
 have VW:Z p=a+(n+2)+1:=by rw[<-H,uF]
 have Bd:(0:V)<((k*2^s:G):V):=by have:0<k*2^s:=Be og hD;omega
 have xG:wh ((m*2^s:G):V) ((k*2^s:G):V) (n+2) a (a+1,p,bt (a+1) 0):=by
  refine⟨aN _,VW,B,?_,ax,te _,λi hi=>?_,?_⟩
  .show val (az (a+1) p)<_;have K:=Bc p (a+1) Y;have h2:=nb<|jN B<|a+1;have hp:=kS<|a+1;by_cases f:val (az (a+1) p)<((k*2^s:G):V)
   .exact f
   .exfalso;have h3:4294967296^(a+1)*((k*2^s:G):V)<=4294967296^(a+1)*val (az (a+1) p):=l6 Y Y;have h4:=OP (eO k) (xH k) (by intro f;rw[f]at d;simp at d);rw[fa,d,(Y:n+2-1=n+1)]at h4;have h5:=wa (n:=m);rw[hM,(Y:a+(n+2)=a+1+(n+1)),Int.pow_add]at h5;have h6:4294967296^(a+1)*4294967296^(n+1)*((2^s:G):V)<=4294967296^(a+1)*((k*2^s:G):V):=by rw[fP,jP];exact l6 (iE h4 Y) Y
    have h7:(m:V)*((2^s:G):V)<4294967296^(a+1)*4294967296^(n+1)*((2^s:G):V):=Kd h5 Y;rw[A,fP m]at K;omega
  .show I (bt (a+1) (0:V)) i 0=0;rw[aO,nc];split<;>rfl
  .show _=val p+_*val (bt (a+1) 0);rw[OO,A];omega
 refine h<|e J ?_;refine aA<|bx (α:=G×E V×E V) (λx=>⟨[(8,y ((n+2:G):V)),(9,y s),(10,.c<|.X 6002000),(11,S ao<|R<|k*2^s),(12,.c<|.X 8005000),(13,y<|(x.1:V)-1)],[(6002000,.vec 142 ao x.2.1),(8005000,.vec 142 ao x.2.2)],10,[]⟩) (wh ((m*2^s:G):V) ((k*2^s:G):V) (n+2) a) (λx=>x.1) (a+1,p,bt (a+1) 0) xG (wk ⟨sE J ?_,sR J,sR J,sE J ?_,sR J,sE J ?_,M⟩<|ny J) ?_
 .exact jC Y
 .refine bl (λz=>AV.c<|C.S ao z) ?_;rw[<-hVt];simp only[d,cx,qx]
 .exact jC Y
 rintro⟨N,U,Q⟩ u;have lV:Z U=a+(n+2)+1:=u.ul;have v:cc U:=u.ur;have Ph:Z Q=a+1:=u.ql;have Nt:N<=a+1:=u.k;refine h<|e J ?_;refine F J (λl=>?_)<|λl=>?_
 .have l:(N:V)-1>=0:=aX l;obtain⟨b,rfl⟩:∃b,N=b+1:=⟨N-1,Y⟩;have ej:((b+1:G):V)-1=(b:V):=Y;rw[ej];have g:=u.next Bd f5;let ⟨_,xD⟩:=u.VT f5;have hqw:=ap7 U (R<|k*2^s) b n v (eO _) f6 Y Y f7 (by rw[fa];exact xD);rw[fa]at hqw;rw[show n+2+1=n+3 from J]at g xD;have hu0:=nb<|jN (A7 v b)<|n+3;refine aG<|h<|aA ?_;refine cL<|rw_ b (b+(n+3)) J J J J J J Y Y (Y:b+(n+3)<=Z U) ?_;rw[(Y:b+(n+3)-b=n+3)];refine A0 6002000 J hqw J J<|O J ?_;refine bU<|rt J<|a6 (b,df U b<|b7 (n+3)<|val ((az b U).take<|n+3)%((k*2^s:G):V),Q.set b<|val ((az b U).take<|n+3)/((k*2^s:G):V)) g (dO b)<|wk (bP J) ⟨bR J,bE J ?_,M⟩;refine bl (aC.vec 142 ao) ?_;show Q.set (ah (b:V)) _=Q.set b _;rw[cx]
 .have l:¬(N:V)-1>=0:=bh l;have hc:N=0:=Y;subst hc;let ⟨e1,e2⟩:=u.fin;have q1:aU Q=R (m/k):=by
   rw[qF u.qr];show R (ah<|val Q)=_;rw[e1];have:((m*2^s:G):V)/((k*2^s:G):V)=((m/k:G):V):=by rw[<-y7,Nat.mul_div_mul_right _ _ hD]
   rw[this,cx]
  have hub:val U<((k*2^s:G):V):=u.ub;have hut:val (c (n+2) U)=val U:=by have K:=Bc U (n+2) Y;rw[ad2 v (n+2) Y Y,iy,tf]at K;exact K.symm
  have za:=ap2 (c (n+2) U) s (jN v _) P Kg;have q2:R (ah<|val (c (n+2) U)/2^s)=R (m%k):=by
   rw[hut,e2,D];have:((m*2^s:G):V)%((k*2^s:G):V)/((2^s:G):V)=((m%k:G):V):=by rw[<-Kf,Nat.mul_mod_mul_right,<-y7,VZ _ hD]
   rw[this,cx]
  rw[q2]at za;have ht:=xI Q;rw[q1]at ht;refine bD<|aR<|dm 6002000 J J J<|dm 8005000 J J J ?_;refine w<|rc J J ht<|rc J J za (hp:=aH)<|O J<|cd J ?_;rfl
def aei m k(i:k≠0)(f:Z (R m)<=1099511627776):aq r 190 [S ao (R m),S ao<|R k] (.t [(ak,[.S ao (R<|m/k)]),(ak,[.S ao (R<|m%k)])]):=by
 by_cases a:m<k
 .refine aS aef ?_;refine e J<|w<|rc J J (ze m)<|rc J J (ze k)<|O J ?_;refine bA (bL J J (Pq m k) J<|F J (λ_=>?_)<|λh=>?_)
  .refine bL J J (O0 (R m) f) J<|bX<|da<|iZ cp J ?_;rw[Dt a,qK a];exact bq.t2<|bq.nil ao
  .exfalso;have h:¬eE (m:V) (k:V)<0:=bh h;unfold eE at h;rw[q Y]at h;omega
 .by_cases b:k<4294967296
  .refine aS aef ?_;have v:R k=[(k:V)]:=by rw[yX i,Dt b,GA,qK b]
   have d:¬eE (m:V) (k:V)<0:=by unfold eE;rw[j Y];split<;>decide
   have l:=apY (R m) (k:V) (eO m) Y Y f;rw[fa,<-y7,<-Kf,cx]at l;have p:=Pq m k;have s:=ze k;rw[v]at p s⊢;refine e J<|w<|rc J J (ze m)<|rc J J s<|O J ?_;refine bA<|bL J J p J<|F J (λh=>aJ (aX h) d)<|λ_=>aG ?_;have g:aq r 222 [S ao (R m),.c (num .u64 (k:V)).1] (.t [(ak,[.S ao (R<|m/k)]),(ak,[.I .u64 ((m%k:G):V)])]):=by rw[show(AV.c (num .u64 (k:V)).1)=cU (k:V)from bY<|be _ Y Y];exact l
   have u:=gJ m<|pT i;refine bA<|e J<|F J (λ_=>?_)<|λh=>gD;refine bL J J g J ?_;refine bL J J (OY (m%k) Y) J<|bX<|da<|atR J
  .have A:2<=Z (R k):=by
    by_cases x:2<=Z (R k)
    .exact x
    .exfalso;have B:=wa (n:=k);have z:=wb (m:=Z<|R k) (n:=1) Y;rw[Int.pow_one]at z;omega
   exact aqj m k (Z (R k)-2) Y Y f
def aej a b(p:b≠0)(n:Sm a)(k:Sm b):aq r 158 [aZ a,aZ b] (.t [(af,av .z<|a/b),(af,av .z<|a%b),(ak,[.I .i64 0])]):=by
 refine aS Tryz.func158 ?_;have d:aD b≠0:=Y;refine e J<|h<|bL J J (ze<|aD b) J ?_;refine F J (λl=>?_)<|λl=>?_
 .exfalso;have l:(Z (R<|aD b):V)=0:=eS l;have:=qJ.2 d;omega
 .refine aG<|bL J J (aei _ _ d n) J<|h<|w ?_;refine rg 26 J J (λh3=>?_) (λh3=>?_)
  .have h3:a<0:=by simpa[cv]using h3
   refine O J<|F J (λh4=>?_)<|λh4=>?_
   .have h4:aD a%aD b≠0:=by have h4:(Z (R<|aD a%aD b):V)>0:=Pk;exact qJ.1 Y
    let ⟨e1,f⟩:=adH (pT d) h3 h4;have hz:cv a=af:=GR;let ⟨g,i⟩:=GH a b (aD a/aD b+1) (aD b-aD a%aD b) GS f;have s:aD a%aD b<aD b:=gJ _<|pT d;refine w<|rl ao [_] J J (rc J J (adM (aD a/aD b) 1 ?_ o)<|O J<|cL<|rc J J (V4 (aD b) _ Y k)<|O J<|aR<|w ?_)
    .exact bZ (uE<|Nat.div_le_self _ _) n
    refine rc J J (qL _ _)<|rc J J (qL _ _)<|O J<|cd J ?_;rw[g,i];rfl
   .have h4:aD a%aD b=0:=by have h4:¬(Z (R<|aD a%aD b):V)>0:=Pk;exact Decidable.byContradiction λm=>by have:=qJ.2 m;omega
    let ⟨e1,f⟩:=adG (pT d) h3 h4;have hz:cv a=af:=GR;let ⟨g,i⟩:=GH a b (aD a/aD b) (aD a%aD b) GS (by rw[f,h4];rfl);refine aG<|w<|rc J J (qL _ _)<|rc J J (qL _ _)<|O J<|cd J ?_;rw[g,i];rfl
  .have h3:¬a<0:=by simpa[cv]using h3
   refine O J<|F J (λh4=>by simp at h4)<|λh4=>?_;let ⟨e1,f⟩:=adF (pT d) h3;have hz:cv a=ak:=GR;let ⟨g,i⟩:=GH a b (aD a/aD b) (aD a%aD b) GS f;refine aG<|w<|rc J J (qL _ _)<|rc J J (qL _ _)<|O J<|cd J ?_;rw[g,i];rfl
def aek m(n:m<18446744073709551616):aq r 189 [S ao (R m)] (cU m):=by
 refine aS Tryz.func189 ?_;have s:=J6 n;refine e J<|e J<|h<|e J ?_;refine aA<|bx (α:=G) (λi=>⟨[(0,S ao<|R m),(3,cU<|val<|c i<|R m),(6,y<|Z<|R m),(7,y i)],[],4,[]⟩) (λi=>i<=Z (R m)) (λi=>Z (R m)-i) 0 (bm _) aY ?_;intro i t;have g:=dv (eO m) i;have d:=lA (R m) i;have l:=ov<|jN (eO m) i;have p:=nb<|jN (eO m) i;refine e J<|h ?_;refine F J (λa=>?_)<|λa=>?_
 .have a:i<Z (R m):=by have a:(i:V)<(Z (R m):V):=aX a;omega
  have f:Z (c i<|R m)=i:=b6;rw[f]at l;refine aG<|h<|aA<|e J<|rt J (hp:=aH)<|bU<|rt J<|a6 (i+1) a (Y:Z (R m)-(i+1)<Z (R m)-i)<|wk ⟨sR J,sE J ?_,sR J,sR J,M⟩ M;refine bY ?_;have b:i=0\/i=1:=Y;rcases b with k|k
  .subst k;show ay .u64 ((jI (dj .u64) (val<|c 0<|R m)|||jI (dj .u64) (ay .u64<|ay .u64 (I (R m) 0 0)*2^(min (ah<|((0:G):V))<|dj .u64))).toNat:V)=val (c (0+1)<|R m);rw[d,be (I (R m) 0 0) Y Y,Bf _ 0 g.1 Y Y];have:=Dx (I (R m) 0 0*2^0) 0 0 Y (by simp[Int.emod_one]) o o Y;rw[GV];simp only[val];rw[BitVec.or_comm,this];simp
  .subst k;show ay .u64 ((jI (dj .u64) (val<|c 1<|R m)|||jI (dj .u64) (ay .u64<|ay .u64 (I (R m) 1 0)*2^(min (ah<|((32:G):V))<|dj .u64))).toNat:V)=val (c (1+1)<|R m);rw[Int.pow_one]at l d;rw[d,be (I (R m) 1 0) Y Y,Bf _ 32 g.1 Y Y];have:=Dx (I (R m) 1 0*2^32) (val<|c 1<|R m) 32 Y (GU _ _) p Y Y;rw[BitVec.or_comm,this,show(2:V)^32=4294967296 from J];omega
 .have a:i=Z (R m):=by have a:¬(i:V)<(Z (R m):V):=bh a;omega
  subst a;refine bD<|aR<|e J<|cd J<|bY ?_;rw[ik,fa]
def tq:G->G->G->G->G->G
 |0,b,_,_,_=>b
 |f+1,b,a,n,p=>if n=0 then b else tq f (if n%2=1 then b*a%p else b) (a*a%p) (n/2) p
def wm(a n p:G):G:=tq 64 (1%p) (a%p) n p
def jD(a p:G):G:=wm a (p-2) p
def ael:∀(f b a n p:G),0<p->b<p->tq f b a n p<p
 |0,b,_,_,_,_,d=>d
 |f+1,b,a,n,p,hp,d=>by
  unfold tq;split
  .exact d
  .refine ael f _ _ _ _ hp ?_;split
   .exact gJ _ hp
   .exact d
def V7 a n p(b:0<p):wm a n p<p:=ael _ _ _ _ _ b<|gJ _ b
def nQ(x a:G):(x:V).tmod (a:V)=((x%a:G):V):=by rw[l7 Y];omega
def GW(x a p:G)(d:x<p)(f:a<p)(b:p<=4294967296):(ay .u64<|(x:V)*(a:V)).tmod (p:V)=((x*a%p:G):V):=by have h:x*a<18446744073709551616:=fY (Ps d f)<|bZ (jQ b b) o;rw[<-fP,be _ Y Y,nQ]
def DA(x:G)(a:x<18446744073709551616):(ay .u64<|(x:V).tdiv 2)=((x/2:G):V):=by
 have e:(x:V).tdiv 2=((x/2:G):V):=by rw[wc Y];omega
 rw[e,be _ Y Y]
def aem(a n p:G)(D:a<18446744073709551616)(A:n<18446744073709551616)(d:0<p)(u:p<=4294967296):aq r 301 [cU a,cU n,cU p] (cU<|wm a n p):=by
 refine aS Tryz.func301 ?_;refine e J<|bA<|e J ?_;refine F J (λh=>?_)<|λh=>?_
 .exfalso;have h:(p:V)=0:=eQ;omega
 .have B:(p:V)≠0:=by omega
  refine aG<|e J<|bA<|e J<|aA<|bx (α:=G×G×G×G) (λx=>⟨[(0,cU x.2.2.1),(1,cU x.2.2.2),(2,cU p),(7,cU x.2.1)],[],4,[]⟩) (λx=>tq x.1 x.2.1 x.2.2.1 x.2.2.2 p=wm a n p/\x.2.2.2<2^x.1/\x.2.1<p/\x.2.2.1<p/\x.2.2.2<18446744073709551616) (λx=>x.2.2.2) (64,1%p,a%p,n) ⟨J,A,gJ _ d,gJ _ d,A⟩ (wk ⟨sE J ?_,sR J,sR J,sE J ?_,M⟩ M) ?_
  .exact bY<|nQ a p
  .exact bY<|nQ 1 p
  .rintro⟨f,v,b,m⟩ ⟨i,hm,hr,l,k⟩;simp only at i hm hr l k;refine bA<|e J ?_;refine F J (λs=>?_) (λs=>?_)
   .have s:(m:V)>0:=by simpa using s
    cases f with
    |zero=>rw[pW]at hm;omega
    |succ f=>
     have t:m/2<2^f:=by rw[gK]at hm;omega
     rw[tq,j Y]at i
     refine aG<|bA<|aA<|bA<|e J ?_
     refine F J (λg=>?_)<|λg=>?_
     .have g:m%2=1:=by have g:=eS g;have C:(m:V).tmod 2=((m%2:G):V):=nQ m 2;have z:(m:V).tmod 2=1:=g;omega
      rw[q g]at i;refine rt J<|aR<|rt J<|bU<|rt J<|a6 (f,v*b%p,b*b%p,m/2) ⟨i,t,gJ _ d,gJ _ d,Pt⟩ Pu<|wk ⟨sE J ?_,sE J ?_,sR J,sE J ?_,M⟩ M
      .exact bY<|GW b b p l l u
      .exact bY<|DA m k
      .exact bY<|GW v b p hr l u
     .have g:¬m%2=1:=by intro C;have H:(m:V).tmod 2=((m%2:G):V):=nQ m 2;have z:((m:V).tmod 2==1)=ak:=g;rw[(Y:(m:V).tmod 2=1)]at z;cases z
      rw[j g]at i;refine aG<|rt J<|bU<|rt J<|a6 (f,v,b*b%p,m/2) ⟨i,t,hr,gJ _ d,Pt⟩ Pu<|wk ⟨sE J ?_,sE J ?_,sR J,sR J,M⟩ M
      .exact bY<|GW b b p l l u
      .exact bY<|DA m k
   .have s:¬(m:V)>0:=by simpa using s
    have:m=0:=Y;subst this;refine bD<|aR<|e J<|cd J ?_;rw[<-i];cases f with
    |zero=>rfl
    |succ f=>rw[tq,q J]
def aqn(a p:G)(b:a<18446744073709551616)(k:a%p≠0)(d:2<=p)(f:p<=4294967296):aq r 291 [cU a,cU p] (.t [(ak,[.I .u64 (jD a p)]),(ak,[.I .i64 0])]):=by
 refine aS Tryz.func291 ?_;have g:(p:V)≠0:=Y;refine e J<|bA<|w ?_;refine rg 8 J J (λh=>?_)<|λh=>?_
 .exfalso;have h:(p:V)<2:=eQ;omega
 .refine O J (F J (λh2=>?_)<|λh2=>?_)
  .exfalso;have h2:(a:V).tmod (p:V)=0:=rK;rw[nQ]at h2;omega
  .have i:aq r 301 [cU a,.c (num .u64<|(p:V)-2).1,cU p] (cU<|wm a (p-2) p):=by rw[show(AV.c (num .u64<|(p:V)-2).1)=cU ((p-2:G):V)from bY<|(be _ Y Y).trans Y];exact aem a (p-2) p b Y Y f
   exact aG<|bL J J i J<|di J
def aP(xs:E V)(p:V):AV:= .a [.S au xs,.I .u64 p]
def aen{a}{k}(b:gR a k=gR a (Z a))(d:k=0\/I a (k-1) 0≠0):c k a=aU a:=by
 unfold aU;rw[<-b];cases k with
 |zero=>rfl
 |succ k=>
  rcases d with d|d
  .omega
  .simp only[eD]at d;simp only[gR,d,bV]
def aeo ws p(g:Z ws<=1000000):aq r 263 [aP ws p] (aP (aU ws) p):=by
 refine aS Tryz.func263 ?_;refine e J<|e J ?_;refine h<|aA<|bx (α:=G) (λk=>⟨[(1,.c<|.P 0 0),(2,.c<|.P 1000 0),(3,y k)],[(0,.box 221 0 [.S au ws,.I .u64 p]),(1000,.box 221 0 [.V (.slice none 0 0),.I .u64 0])],2,[]⟩) (λk=>k<=Z ws/\gR ws k=gR ws (Z ws)) (λk=>k) (Z ws) ⟨aN _,J⟩ (wk (bP J) ⟨bE J J,bE J J,M⟩) ?_;rintro k ⟨i,a⟩;refine h<|w ?_;refine rg 9 J J (λd=>?_)<|λd=>?_
 .simp at d;refine O J (F J (λb=>?_)<|λb=>?_)
  .refine aG (aA<|rt J<|fT<|a6 (k-1) ⟨Y,?_⟩ (Y:k-1<k)<|wk ⟨sR J,sR J,sE J ?_,M⟩ ⟨bE J J,bE J J,M⟩)
   .rw[<-a];obtain⟨j,rfl⟩:∃j,k=j+1:=⟨k-1,Y⟩;have f:I ws j 0=0:=by have:ah (((j+1:G):V)-1)=j:=Y;simpa[this]using b
    simp only[eD,gR,f,cr]
   .congr 2;omega
  .refine bD<|aR<|e J<|cd J ?_;refine bl (aP · p) ?_;rw[<-aen a (.inr ?_)]
   .simp
   .have:ah ((k:V)-1)=k-1:=by omega
    simpa[this]using b
 .simp at d;subst d;refine O J<|F J (λb=>by simp at b)<|λ_=>?_;refine bD<|aR<|e J<|cd J ?_;exact bl (aP · p)<|aen a<|.inl J
def rp(p:V)(a:E V):Prop:=∀i,0<=I a i 0/\I a i 0<p
def Pv{p}{a}(b:rp p a) i{x}(d:0<=x)(f:x<p):rp p (a.set i x):=by
 intro j;have:=b j;simp only[aO,Vt]at this⊢;split
 .split
  .exact⟨d,f⟩
  .rename_i g k;simp only[Option.getD_none];exact⟨iD _,Y⟩
 .exact this
def V8{p}(a:0<p) n:rp p (bt n 0):=by
 intro j;simp only[aO,nc];split
 .exact⟨iD _,a⟩
 .exact⟨iD _,a⟩
def tr(a b:E V)(p:V)(i:G):G->E V->E V
 |0,f=>f
 |d+1,f=>(tr a b p i d f).set (i+d)<|(I (tr a b p i d f) (i+d) 0+I a i 0*I b d 0)%p
def nR(a b:E V)(p:V):G->E V
 |0=>bt (Z a+Z b-1) 0
 |i+1=>tr a b p i (Z b)<|nR a b p i
def Kh(a b:E V)(p:V)(i:G)(d:E V):∀f,Z (tr a b p i f d)=Z d
 |0=>rfl
 |f+1=>by rw[tr,oQ,Kh a b p i d f]
def Ki(a b:E V)(p:V):∀i,Z (nR a b p i)=Z a+Z b-1
 |0=>by simp[nR]
 |i+1=>by rw[nR,Kh,Ki a b p i]
def Pw{a b:E V}{p:V}(f:0<p)(i:G){g:E V}(k:rp p g):∀d,rp p (tr a b p i d g)
 |0=>k
 |d+1=>Pv (Pw f i k d) _ (jq _ Y)<|jr _ f
def Kj(a b:E V){p:V}(d:0<p):∀i,rp p (nR a b p i)
 |0=>V8 d _
 |i+1=>Pw d i (Kj a b d i) _
def cX(a b:E V)(p:V):E V:=if a=[]\/b=[]then[]else aU (nR a b p<|Z a)
def aep x a z p(g:0<=x/\x<p)(d:0<=a/\a<p)(b:0<=z/\z<p)(i:p<=2147483648):(ay .u64<|x+ay .u64 (a*z)).tmod p=(x+a*z)%p:=by have f:0<=a*z:=ku d.1 b.1;have k:a*z<=2147483648*2147483648:=y8 Y Y b.1 Y;rw[be (a*z) f Y,be _ Y Y,l7 Y]
def bq.trans{x a z}(b:bq x a)(k:bq a z):bq x z:=⟨λg v e=>k.1 g v<|b.1 g v e,λd e=>b.2 d<|k.2 d e⟩
def bq.a2{x i k}(d:bq (.c x) (.c i)):bq (.a [x,k]) (.a [i,k]):=by
 refine⟨?_,?_⟩
 .rintro g v ⟨vs,rfl,v1,r,rfl,l,f⟩;exact⟨_,J,v1,r,J,d.1 g v1 l,f⟩
 .intro m b;have f:=d.2 m;simp only[AV.al,b8,iO,bg]at b f⊢;exact b.elim (λd=> .inl<|f d) .inr
def aqo a b p(D:Z a<=1000)(H:Z b<=1000)(l:0<p)(t:p<=2147483648)(u:rp p a)(v:rp p b):aq r 292 [aP a p,aP b p] (aP (cX a b p) p):=by
 refine aS Tryz.func292 ?_;refine e J<|h<|w ?_;have m:a=[]\/b=[]->aP [] p=aP (cX a b p) p:=λf=>by rw[cX,q f]
 refine rg 12 J J (λf=>?_)<|λf=>?_
 .have f:a=[]:=by simpa using f
  refine O J (F J (λd=>?_)<|λd=>by simp at d);exact e J<|bX<|da<|iZ cp J<|bq.trans (bq.a2<|bq.nil au)<|bq.of_eq<|m<|.inl f
 .have f:a≠[]:=by simpa using f
  refine O J<|F J (λd=>?_)<|λd=>?_
  .have d:b=[]:=by simpa using d
   exact e J<|bX<|da<|iZ cp J<|bq.trans (bq.a2<|bq.nil au)<|bq.of_eq<|m<|.inr d
  .have d:b≠[]:=by simpa using d
   have C:=cR.2 f;have K:=cR.2 d;refine aG<|w ?_;refine rm au (Z a+Z b-1) J J J J J J (nJ .u64) Y ?_ ?_ ?_
   .show _*8<=_;omega
   .show _*1<=_;omega
   refine O J<|h<|e J ?_;refine aA<|bx (α:=G) (λi=>⟨[(2,.c<|.P 0 0),(3,.c<|.P 1000 0),(4,.c<|.P 2000 0),(5,.c<|.X 2008000),(32,y<|Z a),(33,y i)],[(0,.box 221 0 [.S au a,.I .u64 p]),(1000,.box 221 0 [.S au b,.I .u64 p]),(2000,.box 221 0 [.V (.slice none 0 0),.I .u64 0]),(2008000,.vec 150 au<|nR a b p i)],4,[]⟩) (λi=>i<=Z a) (λi=>Z a-i) 0 (bm _) (wk (bP J) ⟨bE J J,bE J J,bE J J,bE J J,M⟩) ?_;intro i N;have x:=Ki a b p i;refine e J<|h ?_;refine F J (λg=>?_)<|λg=>?_
   .have g:i<Z a:=by simpa using g
    refine aG<|h<|aA<|e J<|e J ?_;refine aA<|bx (α:=G) (λj=>⟨[(2,.c<|.P 0 0),(3,.c<|.P 1000 0),(4,.c<|.P 2000 0),(5,.c<|.X 2008000),(6,y i),(32,y<|Z a),(33,y i),(38,y<|Z b),(39,y j)],[(0,.box 221 0 [.S au a,.I .u64 p]),(1000,.box 221 0 [.S au b,.I .u64 p]),(2000,.box 221 0 [.V (.slice none 0 0),.I .u64 0]),(2008000,.vec 150 au<|tr a b p i j<|nR a b p i)],7,[]⟩) (λj=>j<=Z b) (λj=>Z b-j) 0 (bm _) (wk (bP J) ⟨bE J J,bE J J,bE J J,bE J J,M⟩) ?_;intro j Q;have z:=Kh a b p i (nR a b p i) j;refine e J<|h ?_;refine F J (λk=>?_)<|λk=>?_
    .have k:j<Z b:=by simpa using k
     have A:=u i;have B:=v j;have gr:=Pw l (a:=a) (b:=b) i (Kj a b l i) j<|i+j;have s:ah ((i:V)+(j:V))=i+j:=Y;refine aG<|h<|aA<|e J<|rt J ?_ (hp:=lB);refine bU<|rt J<|a6 (j+1) k V9<|wk (bP J) ⟨bE J J,bE J J,bE J J,bE J ?_,M⟩;rw[tr,s,<-aep _ _ _ p gr A B t];rfl
    .have k:¬j<Z b:=by simpa using k
     have n:j=Z b:=Y;subst n;refine bD<|bU<|rt J<|a6 (i+1) g r6<|wk (bP J) ⟨bE J J,bE J J,bE J J,bE J J,M⟩
   .have g:¬i<Z a:=by simpa using g
    have n:i=Z a:=Y;subst n;refine bD<|aR<|dm 2008000 J J J<|bL J J (aeo (nR a b p<|Z a) p Y) J<|cd J ?_;rw[cX,ma<|λn=>n.elim f d];rfl
def aqp(x:V)(a:E V)(d:Z a<=1000000):pS r 290 [S au (x::a)] 150 au (x::a):=by
 refine JO Tryz.func290 J J J J o ?_;refine e J<|h<|w<|rx J J M<|O J ?_;refine F J (λb=>by simp at b)<|λb=>?_;refine aG<|w<|ij au [] J J (ra J J J J J J J J J ?_ ?_<|O J<|bX<|JN (id:=2002000) cp J J)
 .show(_+(_+1)+(_+(_+1))/4+192)*8<=_;simp only[ug];omega
 .show(_+(_+1))*1<=_;simp only[ug];omega
def aqq ws p(a:Z ws<=1000000):aq r 232 [aP ws p] (y<|(Z ws:V)-1):=by refine aS Tryz.func232 ?_;exact e J<|e J<|di J
def wo(b:E V)(p f:V)(i:G):G->E V->E V
 |0,d=>d
 |a+1,d=>(wo b p f i a d).set (i+a)<|(I (wo b p f i a d) (i+a) 0+(p-f)*I b a 0)%p
def iG(a b:E V)(p v:V)(m n:G):G->E V×E V
 |0=>(bt m 0,a)
 |k+1=>((iG a b p v m n k).1.set (m-(k+1))<|(iG a b p v m n k).2.getD (m-(k+1)+n) 0*v%p,wo b p ((iG a b p v m n k).2.getD (m-(k+1)+n) 0*v%p) (m-(k+1)) (Z b) (iG a b p v m n k).2)
def Px(b:E V)(p f:V)(i:G)(a:E V):∀d,Z (wo b p f i d a)=Z a
 |0=>rfl
 |d+1=>by rw[wo,oQ,Px b p f i a d]
def V'{b:E V}{p c:V}(d:0<p)(i:G){f:E V}(g:rp p f):∀a,rp p (wo b p c i a f)
 |0=>g
 |a+1=>Pv (V' d i g a) _ (jq _ Y)<|jr _ d
def Py(a b:E V)(p v:V)(m n:G):∀k,(iG a b p v m n k).1.length=m/\(iG a b p v m n k).2.length=Z a
 |0=>by simp[iG]
 |k+1=>by have:=Py a b p v m n k;simp only[iG,oQ,Px];exact this
def Wa{a:E V}(b:E V){p:V}(v:V)(m n:G)(d:0<p)(f:rp p a):∀k,rp p (iG a b p v m n k).1/\rp p (iG a b p v m n k).2
 |0=>⟨V8 d _,f⟩
 |k+1=>by have g:=Wa b v m n d f k;exact⟨Pv g.1 _ (jq _ Y)<|jr _ d,V' d _ g.2 _⟩
def aV(a b:E V)(p:V):E V×E V:=
 if Z a<=Z b-1 then([],a)
 else(λx=>(x.1,aU<|c (Z b-1) x.2)) (iG a b p (jD (ah<|I b (Z b-1) 0) (ah p):G) (Z a-(Z b-1)) (Z b-1)<|Z a-(Z b-1))
def aqr x a z p(g:0<=x/\x<p)(d:0<=a/\a<=p)(b:0<=z/\z<p)(i:p<=2147483648):(ay .u64<|x+ay .u64 (a*z)).tmod p=(x+a*z)%p:=by have f:0<=a*z:=ku d.1 b.1;have k:a*z<=2147483648*2147483648:=y8 Y Y b.1 Y;rw[be (a*z) f Y,be _ Y Y,l7 Y]
def aeq a z p(d:0<=a/\a<p)(b:0<=z/\z<p)(g:p<=2147483648):(ay .u64<|a*z).tmod p=a*z%p:=by have f:0<=a*z:=ku d.1 b.1;have i:a*z<=2147483648*2147483648:=y8 Y Y b.1 Y;rw[be (a*z) f Y,l7 Y]
def aer a p(b:0<=a/\a<p)(f:a≠0)(d:2<=p)(g:p<=2147483648):aq r 291 [cU a,cU p] (.t [(ak,[.I .u64 (jD (ah a) (ah p):G)]),(ak,[.I .i64 0])]):=by have h:=aqn (ah a) (ah p) Y (by rw[qK Y];omega) Y Y;rwa[xp b.1,xp (by omega:0<=p)]at h
def bq.ta{x d f}{i}(k:bq (.c x) (.c d)):bq (.t<|(af,[x,f])::i) (.t<|(af,[d,f])::i):=by
 refine⟨?_,?_⟩
 .rintro g v ⟨vs,rfl,v1,r1,rfl,⟨us,rfl,v2,l,rfl,m,b⟩,n⟩;exact⟨_,J,_,_,J,⟨_,J,v2,l,J,k.1 g v2 m,b⟩,n⟩
 .intro p a;have b:=k.2 p;simp only[AV.al,dX,b8,iO,bg]at a b⊢;rcases a with(a|a)|a
  .exact .inl<|.inl<|b a
  .exact .inl<|.inr a
  .exact .inr a
def aqs x a' b p{a}(ea:a=x::a')(la:Z a<=1000)(lb:Z b<=1000)(A:2<=p)(B:p<=2147483648)(ha:rp p a)(hb:rp p b)(D:b≠[])(l:I b (Z b-1) 0≠0):aq r 264 [aP a p,aP b p] (.t [(af,[.S au (aV a b p).1,.I .u64 p]),(af,[.S au (aV a b p).2,.I .u64 p])]):=by
 refine aS Tryz.func264 ?_;have E:p≠0:=Y;have pb:=cR.2 D;have C:pS r 290 [S au a] 150 au a:=by rw[ea]at la⊢;exact aqp x a' (by simp at la;omega)
 refine e J<|w<|De J J C<|O J<|bL J J (aqq b p Y) J<|bA<|e J ?_;refine F J (λh=>?_)<|λh=>?_
 .have h:Z a<=Z b-1:=by have h:(Z a:V)<=(Z b:V)-1:=eQ;omega
  have f:aV a b p=([],a):=by rw[aV,q h]
  rw[f];refine e J<|bX<|da<|iZ cp J ?_;exact bq.ta<|bq.nil au
 .have h:¬Z a<=Z b-1:=by have h:¬(Z a:V)<=(Z b:V)-1:=eQ;omega
  obtain⟨n,o⟩:∃n,Z b=n+1:=⟨Z b-1,Y⟩;obtain⟨m,L⟩:∃m,Z a=n+m:=⟨Z a-n,Y⟩;have f:aV a b p=((iG a b p (jD (ah<|I b n 0) (ah p):G) m n m).1,aU<|(iG a b p (jD (ah<|I b n 0) (ah p):G) m n m).2.take n):=by rw[aV,ma h,o,L,eD,Kk]
  rw[f];rw[o,eD]at l;have R:(Z b:V)-1=(n:V):=Y;generalize hv:(jD (ah<|I b n 0) (ah p):G)=v;have H:(0:V)<=(v:V)/\(v:V)<p:=by have:=V7 (ah<|I b n 0) (ah p-2) (ah p) Y;unfold jD at hv;omega
  rw[R];have d:=aer (I b n 0) p (hb n) l A B;rw[hv]at d;refine aG<|bL J J d J<|w ?_;refine rm au m J J J J J J (nJ .u64) Y ?_ ?_ ?_
  .show _*8<=_;omega
  .show _*1<=_;omega
  refine O J<|bA<|e J ?_;refine aA<|bx (α:=G) (λk=>⟨[(2,.c<|.P 0 0),(3,.c<|.P 1000 0),(4,.c<|.P 2000 0),(5,.c<|.P 3000 0),(6,.c<|.X 1002000),(7,y n),(8,cU v),(10,.c<|.X 5004000),(11,y<|(m:V)-1-k)],[(0,.box 221 0 [.S au a,.I .u64 p]),(1000,.box 221 0 [.S au b,.I .u64 p]),(2000,.box 221 0 [.V (.slice none 0 0),.I .u64 0]),(3000,.box 221 0 [.V (.slice none 0 0),.I .u64 0]),(1002000,.vec 150 au (iG a b p v m n k).2),(5004000,.vec 150 au (iG a b p v m n k).1)],7,[]⟩) (λk=>k<=m) (λk=>m-k) 0 (bm _) (wk ⟨sR J,sR J,sR J,sR J,sR J,sR J,sR J,sR J,sE J ?_,M⟩ ⟨bE J J,bE J J,bE J J,bE J J,bE J J,bE J J,M⟩) ?_
  .exact bl y (by simp only[gQ];omega)
  intro k hk;have K:=Py a b p v m n k;have s:=Wa b v m n Y ha k;refine bA<|e J ?_;refine F J (λh3=>?_)<|λh3=>?_
  .have h3:k<m:=by have h3:(m:V)-1-k>=0:=Cd;omega
   obtain⟨i,hi⟩:∃i,m=i+(k+1):=⟨m-(k+1),Y⟩;have U:(m:V)-1-k=(i:V):=Y;have u:m-(k+1)=i:=Y;rw[U];have N:ah ((i:V)+(n:V))=i+n:=Y;generalize hc:(iG a b p v m n k).2.getD (i+n) 0*v%p=c;have vJ:0<=c/\c<p:=by rw[<-hc];exact⟨jq _ Y,jr _ Y⟩
   have Q:=s.2<|i+n;refine aG<|bA<|aA<|e J (hp:=lB)<|e J ?_;refine aA<|bx (α:=G) (λj=>⟨[(2,.c<|.P 0 0),(3,.c<|.P 1000 0),(4,.c<|.P 2000 0),(5,.c<|.P 3000 0),(6,.c<|.X 1002000),(7,y n),(8,cU v),(10,.c<|.X 5004000),(11,y i),(65,y<|Z b),(66,y j)],[(0,.box 221 0 [.S au a,.I .u64 p]),(1000,.box 221 0 [.S au b,.I .u64 p]),(2000,.box 221 0 [.V (.slice none 0 0),.I .u64 0]),(3000,.box 221 0 [.V (.slice none 0 0),.I .u64 0]),(1002000,.vec 150 au<|wo b p c i j (iG a b p v m n k).2),(5004000,.vec 150 au<|(iG a b p v m n k).1.set i c)],10,[]⟩) (λj=>j<=Z b) (λj=>Z b-j) 0 (bm _) (wk (bP J) ⟨bE J J,bE J J,bE J J,bE J J,bE J J,bE J ?_,M⟩) ?_
   .rw[<-hc,<-aeq _ _ p Q H B,<-N];rfl
   intro j hj;have hlj:=Px b p c i (iG a b p v m n k).2 j;have T:=V' (b:=b) (p:=p) (c:=c) Y i s.2 j<|i+j;refine e J<|bA ?_;refine F J (λg=>?_)<|λg=>?_
   .have g:j<Z b:=by simpa using g
    have gb:=hb j;have W:ah ((i:V)+(j:V))=i+j:=Y;have z:I ((iG a b p v m n k).1.set i c) i 0=c:=by rw[aO,List.getElem?_set_self Y];rfl
    have hll:Z ((iG a b p v m n k).1.set i c)=m:=by rw[oQ];exact K.1
    refine aG<|bA<|aA<|e J<|rt J ?_ (hp:=lB);refine bU<|rt J<|a6 (j+1) g V9<|wk (bP J) ⟨bE J J,bE J J,bE J J,bE J J,bE J ?_,bE J J,M⟩;rw[wo,W,<-aqr _ (p-c) _ p T Y gb B];have e2:ay .u64 (p-I ((iG a b p v m n k).1.set i c) (ah (i:V)) 0)=p-c:=by rw[cx,z,be _ Y Y]
    rw[<-e2];rfl
   .have g:¬j<Z b:=by simpa using g
    have f:j=Z b:=Y;subst f;refine bD<|bU<|rt J<|a6 (k+1) h3 (Y:m-(k+1)<m-k)<|wk ⟨sR J,sR J,sR J,sR J,sR J,sR J,sR J,sR J,sE J ?_,M⟩ ⟨bE J J,bE J J,bE J J,bE J J,bE J ?_,bE J ?_,M⟩
    .exact bl y Y
    .rw[iG,u,hc]
    .rw[iG,u,hc]
  .have h3:¬k<m:=by have h3:¬(m:V)-1-k>=0:=Cd;omega
   have f:k=m:=Y;subst f;refine bD<|aR<|dm 1002000 J J J<|dm 5004000 J J J<|bL J J (aeo ((iG a b p v k n k).2.take n) p Kg) J<|di J
def sm(f:G->V):G->V
 |0=>0
 |k+1=>sm f k+f k
def PA(A B:G->V)(n:G):∀k,lC A B n k=sm (λi=>A i*B (n-i)) k
 |0=>rfl
 |k+1=>by rw[lC,sm,PA A B n k]
def g7{f g:G->V}:∀{k:G},(∀i,i<k->f i=g i)->sm f k=sm g k
 |0,_=>rfl
 |k+1,a=>by rw[sm,sm,g7<|λi b=>a i Y,a k Y]
def sa{f:G->V}{k}(a:∀i,i<k->f i=0):sm f k=0:=by
 induction k with
 |zero=>rfl
 |succ k b=>rw[sm,b<|λi d=>a i Y,a k Y];rfl
def PB(f g:G->V):∀k,sm (λi=>f i+g i) k=sm f k+sm g k
 |0=>rfl
 |k+1=>by simp only[sm,PB f g k];omega
def Bi(a:V)(f:G->V):∀k,sm (λi=>a*f i) k=a*sm f k
 |0=>by simp[sm]
 |k+1=>by simp only[sm,Bi a f k,pU]
def Wb a(f:G->V) k:sm (λi=>f i*a) k=sm f k*a:=by rw[fo,<-Bi];exact g7<|λi _=>fo _ _
def aet(f:G->V):∀k,sm f (k+1)=f 0+sm (λi=>f<|i+1) k
 |0=>by simp[sm]
 |k+1=>by rw[sm,aet f k,sm];omega
def aeu(f:G->V):∀k,sm f k=sm (λi=>f<|k-1-i) k
 |0=>rfl
 |k+1=>by rw[sm,aeu f k,aet<|λi=>f<|k+1-1-i];have:sm (λi=>f<|k+1-1-(i+1)) k=sm (λi=>f<|k-1-i) k:=g7 (λi _=>by congr 1;omega);rw[this,(Y:k+1-1-0=k)];omega
def aev(b:G->G->V):∀n,sm (λi=>sm (λa=>b i a)<|i+1) n=sm (λa=>sm (λk=>b (a+k) a)<|n-a) n
 |0=>rfl
 |n+1=>by
  rw[sm,aev b n];have d:sm (λa=>sm (λk=>b (a+k) a)<|n+1-a) n=sm (λa=>sm (λk=>b (a+k) a) (n-a)+b n a) n:=by refine g7<|λa f=>?_;rw[(Y:n+1-a=(n-a)+1),sm,(Y:a+(n-a)=n)]
  rw[show sm (λa=>sm (λk=>b (a+k) a)<|n+1-a) (n+1)=sm (λa=>sm (λk=>b (a+k) a)<|n+1-a) n+sm (λk=>b (n+k) n) (n+1-n)from J,d,PB];rw[(Y:n+1-n=1),show sm (λa=>b n a) (n+1)=sm (λa=>b n a) n+b n n from J,show sm (λk=>b (n+k) n) 1=0+b (n+0) n from J,jZ];have g:sm (λa=>b n a) n=sm (b n) n:=rfl;omega
def PS:Type:=G->V
namespace PS
instance:Add PS:=⟨λA B i=>A i+B i⟩
instance:Mul PS:=⟨λA B=>conv A B⟩
instance:Neg PS:=⟨λA i=> -(A i)⟩
instance:_root_.Sub PS:=⟨λA B i=>A i-B i⟩
instance:OfNat PS 0:=⟨λ_=>(0:V)⟩
instance:OfNat PS 1:=⟨λi=>if i=0 then(1:V)else 0⟩
def K(a:V):PS:=λi=>if i=0 then a else 0
def X(k:G):PS:=λi=>if i=k then 1 else 0
def ext{A B:PS}(a:∀i,A i=B i):A=B:=funext a
def dP(A B:PS) i:(A+B) i=A i+B i:=rfl
def Ko(A:PS) i:(-A) i= -(A i):=rfl
def nS(A B:PS) i:(A-B) i=A i-B i:=rfl
def lD i:(0:PS) i=0:=rfl
def fV(A B:PS) n:(A*B) n=sm (λi=>A i*B (n-i)) (n+1):=PA A B n<|n+1
def js(A B:PS):A+B=B+A:=ext λi=>xJ _ _
def jR(A B C:PS):A+B+C=A+(B+C):=ext λi=>Int.add_assoc _ _ _
def im(A:PS):0+A=A:=ext λi=>Dz _
def fq(A:PS):A+0=A:=ext λi=>tf _
def kT(A:PS):A+ -A=0:=ext λi=>Int.add_right_neg _
def aew(A:PS): -A+A=0:=ext λi=>Int.add_left_neg _
def eY(A B:PS):A-B=A+ -B:=ext λi=>V1
def neg_zero: -(0:PS)=0:=rfl
def qO(A B:PS): -(A+B)= -A+ -B:=ext λi=>Int.neg_add
def c8(A B:PS):A*B=B*A:=by
 refine ext λn=>?_
 rw[fV,fV,aeu];refine g7<|λi a=>?_;rw[fo];congr 1<;>congr 1<;>omega
def fE(A B C:PS):A*(B+C)=A*B+A*C:=by
 refine ext λn=>?_
 rw[dP,fV,fV,fV,<-PB];exact g7 (λi _=>by rw[dP,pU])
def gh(A B C:PS):(A+B)*C=A*C+B*C:=by rw[c8,fE,c8 C A,c8 C B]
def c9(A B C:PS):A*B*C=A*(B*C):=by
 refine ext λn=>?_
 rw[fV,fV];have a:sm (λi=>(A*B) i*C (n-i)) (n+1)=sm (λi=>sm (λj=>A j*B (i-j)*C (n-i))<|i+1) (n+1):=g7 (λi _=>by rw[fV,Wb]);rw[a,aev<|λi j=>A j*B (i-j)*C (n-i)];refine g7<|λj b=>?_;rw[fV,<-Bi,(Y:n+1-j=n-j+1)];refine g7<|λk d=>?_;rw[jP,(Y:j+k-j=k),(Y:n-(j+k)=n-j-k)]
def g8(A:PS):A*0=0:=by
 refine ext λn=>?_
 rw[fV];exact sa (λi _=>by rw[lD,iy])
def dw(A:PS):0*A=0:=by rw[c8,g8]
def kU k A i:(X k*A) i=if k<=i then A (i-k)else 0:=by
 rw[fV];by_cases h:k<=i
 .rw[q h];have e:sm (λa=>X k a*A (i-a)) (i+1)=X k k*A (i-k):=by have:=OX (X k) A i k (i+1) Y (λa _ b=>by simp[X,b]);exact(PA (X k) A i<|i+1).symm.trans this
  rw[e];simp[X]
 .rw[j h];exact sa (λa b=>by simp[X,(Y:a≠k)])
def dL a A i:(K a*A) i=a*A i:=by rw[fV];have:=OX (K a) A i 0 (i+1) Y (λj _ b=>by simp[K,b]);rw[show sm (λj=>K a j*A (i-j)) (i+1)=K a 0*A (i-0)from(PA (K a) A i<|i+1).symm.trans this];simp[K]
def Kq:(1:PS)=K 1:=rfl
def kV:K 0=0:=ext λi=>by simp[K,lD]
def cY(A:PS):1*A=A:=ext λi=>by rw[Kq,dL,mc]
def fv(A:PS):A*1=A:=by rw[c8,cY]
def neg_eq A: -A=K (-1)*A:=ext λi=>by rw[dL,Ko];omega
def neg_mul(A B:PS): -A*B= -(A*B):=by rw[neg_eq,neg_eq<|A*B,c9]
def mul_neg(A B:PS):A* -B= -(A*B):=by rw[c8,neg_mul,c8 B A]
def wq a b:K (a+b)=K a+K b:=ext λi=>by rw[dP];unfold K;split<;>rfl
def Bj a b:K (a*b)=K a*K b:=ext λi=>by rw[dL];unfold K;split<;>simp
def DB a k:X (a+k)=X a*X k:=ext λi=>by
 rw[kU];unfold X;by_cases h:a<=i
 .rw[q h];by_cases h2:i=a+k
  .rw[q h2,q Y]
  .rw[j h2,j Y]
 .rw[j h,j Y]
instance:Std.Associative (α:=PS) (·+·):=⟨jR⟩
instance:Std.Commutative (α:=PS) (·+·):=⟨js⟩
instance:Std.Associative (α:=PS) (·*·):=⟨c9⟩
instance:Std.Commutative (α:=PS) (·*·):=⟨c8⟩
end PS
def ps(a:E V):PS:=λi=>I a i 0
def cM a i:ps a i=I a i 0:=rfl
def Cg(m:V)(A B:PS):Prop:=∃U:PS,A=B+PS.K m*U
def Cg.at{m}{A B}(a:Cg m A B) i:A i%m=B i%m:=by obtain⟨U,rfl⟩:=a;rw[PS.dP,PS.dL];exact Pg _ _ _
def Cg.of{m}{A B}(a:∀i,A i%m=B i%m):Cg m A B:=by
 let U:PS:=λi=>A i/m-B i/m
 refine⟨U,PS.ext λi=>?_⟩;have b:=o9 (A i) m;have d:=o9 (B i) m;have:=a i;have e:U i=A i/m-B i/m:=rfl;rw[PS.dP,PS.dL,e,GN];omega
def Cg.dvd{m}{A B}(a:Cg m A B) i:m∣A i-B i:=by obtain⟨U,rfl⟩:=a;rw[PS.dP,PS.dL];exact⟨U i,Y⟩
def Cg.Wc{m}{A B}(a:∀i,m∣A i-B i):Cg m A B:=Cg.of λi=>Wd.2<|DC<|a i
def Cg.refl m A:Cg m A A:=⟨0,by rw[PS.g8,PS.fq]⟩
def Cg.of_eq{m}{A B}(a:A=B):Cg m A B:=a▸Cg.refl m A
def Cg.symm{m}{A B}(a:Cg m A B):Cg m B A:=Cg.of λi=>(a.at i).symm
def Cg.trans{m}{A B C}(a:Cg m A B)(k:Cg m B C):Cg m A C:=Cg.of λi=>(a.at i).trans<|k.at i
def Cg.add{m}{A B C D}(a:Cg m A B)(k:Cg m C D):Cg m (A+C) (B+D):=by obtain⟨U,rfl⟩:=a;obtain⟨V,rfl⟩:=k;exact⟨U+V,by rw[PS.fE];ac_rfl⟩
def Cg.neg{m}{A B}(a:Cg m A B):Cg m (-A) (-B):=by obtain⟨U,rfl⟩:=a;exact⟨-U,by rw[PS.qO,PS.mul_neg]⟩
def Cg.sub{m}{A B C D}(a:Cg m A B)(k:Cg m C D):Cg m (A-C) (B-D):=by rw[PS.eY,PS.eY];exact a.add k.neg
def Cg.mul{m}{A B C D}(a:Cg m A B)(k:Cg m C D):Cg m (A*C) (B*D):=by obtain⟨U,rfl⟩:=a;obtain⟨V,rfl⟩:=k;refine⟨B*V+U*D+PS.K m*U*V,?_⟩;simp only[PS.fE,PS.gh];ac_rfl
def Cg.Kt{m}A{C D}(k:Cg m C D):Cg m (A*C) (A*D):=(Cg.refl m A).mul k
def Cg.DD{m}{A B}(k:Cg m A B) C:Cg m (A*C) (B*C):=k.mul<|Cg.refl m C
def Cg.aex{m}A{C D}(k:Cg m C D):Cg m (A+C) (A+D):=(Cg.refl m A).add k
def Cg.GX{m}{A B}(k:Cg m A B) C:Cg m (A+C) (B+C):=k.add<|Cg.refl m C
def Cg.K{m a b}(d:a%m=b%m):Cg m (PS.K a) (PS.K b):=Cg.of λi=>by
 unfold PS.K;split
 .exact d
 .rfl
def Dl(p:V)(n:G)(A:PS):Prop:=∀i,n<=i->A i%p=0
def Dl.cg{p}{n}{A B}(a:Dl p n A)(k:Cg p A B):Dl p n B:=λi b=>by rw[<-k.at i];exact a i b
def Dl.le{p}{n m}{A}(a:Dl p n A)(k:n<=m):Dl p m A:=λi b=>a i Y
def Dl.add{p}{n}{A B}(b:Dl p n A)(k:Dl p n B):Dl p n (A+B):=λi a=>by rw[PS.dP,Ku,b i a,k i a];rfl
def Dl.neg{p}{n}{A}(a:Dl p n A):Dl p n (-A):=λi b=>by rw[PS.Ko];exact DC<|Int.dvd_neg.2<|GY<|a i b
def Dl.sub{p}{n}{A B}(a:Dl p n A)(k:Dl p n B):Dl p n (A-B):=by rw[PS.eY];exact a.add k.neg
def aey{p}{f:G->V}{k}(a:∀i,i<k->f i%p=0):sm f k%p=0:=by
 induction k with
 |zero=>exact iH _
 |succ k b=>rw[sm,Ku,b<|λi d=>a i Y,a k Y];rfl
def PC{p a b:V}(d:a%p=0):a*b%p=0:=by rw[sb,d,ox,iH]
def PD{p a b:V}(d:b%p=0):a*b%p=0:=by rw[fo];exact PC d
def Dl.mul{p}{n m}{A B}(b:Dl p (n+1) A)(k:Dl p m B):Dl p (n+m) (A*B):=λi d=>by
 rw[PS.fV];refine aey<|λj f=>?_;by_cases a:n+1<=j
 .exact PC<|b j a
 .exact PD<|k (i-j) Y
def Dl.mul'{p}{n m}{A B}(a:Dl p n A)(k:Dl p m B):Dl p (n+m) (A*B):=by
 cases n with
 |zero=>
  intro i b
  rw[PS.fV]
  exact aey<|λj d=>PC<|a j<|bm _
 |succ n=>exact(a.mul k).le Y
def Dl.top{p}{n m}{A B}(b:Dl p (n+1) A)(k:Dl p (m+1) B):(A*B) (n+m)%p=A n*B m%p:=by
 rw[PS.fV];have:∀r,r<=n+m+1->sm (λi=>A i*B (n+m-i)) r%p=if n<r then A n*B m%p else 0:=by
  intro r f;induction r with
  |zero=>simp[sm]
  |succ r d=>
   rw[sm,Ku,d Y]
   by_cases a:n<r
   .rw[q a,q Y,PC<|b r Y,tf,nT]
   .rw[j a];by_cases h2:n=r
    .subst h2;rw[q Y,Dz,nT,(Y:n+m-n=m)]
    .rw[j Y,PD<|k _ Y];rfl
 rw[this _ (aN _),q Y]
def aqt{p}{A}(a:Dl p 0 A):Cg p A 0:=Cg.of λi=>by rw[a i (bm _),PS.lD,iH]
def me p a:Dl p (Z a) (ps a):=λi b=>by rw[cM,aO,jB b];simp
def aqu p k:Dl p (k+1) (PS.X k):=λi a=>by unfold PS.X;rw[j Y];simp
def We p a:Dl p 1 (PS.K a):=λi b=>by unfold PS.K;rw[j Y];simp
def aqv p n:Dl p n 0:=λi _=>by rw[PS.lD,iH]
def aez p:Dl p 1 1:=We p 1
def eo(p:G):Prop:=2<=p/\∀d,2<=d->d*d<=p->p%d≠0
def eo.GZ{p d}(b:eo p)(g:d∣p):d=1\/d=p:=by
 let ⟨e,he⟩:=g;have k:=b.1;have l:d≠0:=by intro a;subst a;simp at he;omega
 have a:e≠0:=by intro a;subst a;simp at he;omega
 by_cases d1:d=1
 .exact .inl d1
 by_cases i:e=1
 .subst i;right;omega
 exfalso;by_cases f:d<=e
 .exact b.2 d Y (by rw[he];exact ja d f) (by rw[he];exact Nat.mul_mod_right d e)
 .exact b.2 e Y (by rw[he];exact eB e Y) (by rw[he];exact Nat.mul_mod_left d e)
def eo.coprime{p a}(b:eo p)(d:¬p∣a):Nat.Coprime p a:=by
 rcases b.GZ (Nat.gcd_dvd_left p a)with e|e
 .exact e
 .exact aJ (e▸Wf p a) d
def eo.dvd_mul{p a b}(f:eo p)(g:p∣a*b):p∣a\/p∣b:=by
 by_cases d:p∣a
 .exact .inl d
 .exact .inr<|(f.coprime d).dvd_of_dvd_mul_left g
def eo.aeA{p}{a b}(d:eo p)(f:(p:V)∣a*b):(p:V)∣a\/(p:V)∣b:=by
 have:p∣aD a*aD b:=by rw[<-pX];have:=Kv.2 f;rwa[pe]at this
 rcases d.dvd_mul this with e|e
 .exact .inl (Kv.1<|by rwa[pe])
 .exact .inr (Kv.1<|by rwa[pe])
def eo.oA{p}{a b}(d:eo p)(f:a%(p:V)≠0)(g:b%(p:V)≠0):a*b%(p:V)≠0:=λe=>by
 rcases d.aeA (GY e)with e|e
 .exact f<|DC e
 .exact g<|DC e
def ch:G->G->G
 |_,0=>1
 |0,_+1=>0
 |n+1,k+1=>ch n k+ch n (k+1)
def tu n:ch n 0=1:=by cases n<;>rfl
def Bk:∀(n k:G),n<k->ch n k=0
 |0,0,a=>by omega
 |0,k+1,_=>rfl
 |n+1,0,a=>by omega
 |n+1,k+1,a=>by rw[ch,Bk n k Y,Bk n (k+1) Y]
def Kw:∀n,ch n n=1
 |0=>rfl
 |n+1=>by rw[ch,Kw n,Bk n (n+1) Y]
def PE:∀(n k:G),(k+1)*ch (n+1) (k+1)=(n+1)*ch n k
 |0,0=>rfl
 |0,k+1=>by rw[Bk 1 (k+1+1) Y];rfl
 |n+1,0=>by have:=PE n 0;rw[tu]at this;rw[show ch (n+1+1) (0+1)=ch (n+1) 0+ch (n+1) (0+1)from J,tu];omega
 |n+1,k+1=>by have a:=PE n k;have b:=PE n<|k+1;rw[ch,Bl,b];rw[(Iu:(k+1+1)*ch (n+1) (k+1)=(k+1)*ch (n+1) (k+1)+ch (n+1) (k+1)),a];rw[show ch (n+1) (k+1)=ch n k+ch n (k+1)from J];grind
def eo.PF{p k}(a:eo p)(d:0<k)(f:k<p):p∣ch p k:=by
 obtain⟨n,rfl⟩:∃n,p=n+1:=⟨p-1,Y⟩;obtain⟨j,rfl⟩:∃j,k=j+1:=⟨k-1,Y⟩;have b:n+1∣(j+1)*ch (n+1) (j+1):=⟨ch n j,PE n j⟩;rcases a.dvd_mul b with e|e
 .have:=uG Y e;omega
 .exact e
def pw(A:PS):G->PS
 |0=>1
 |n+1=>pw A n*A
def sP(f:G->PS):G->PS
 |0=>0
 |k+1=>sP f k+f k
def Wg{f g:G->PS}:∀{k:G},(∀i,i<k->f i=g i)->sP f k=sP g k
 |0,_=>rfl
 |k+1,a=>by rw[sP,sP,Wg<|λi b=>a i Y,a k Y]
def aeB(f g:G->PS):∀k,sP (λi=>f i+g i) k=sP f k+sP g k
 |0=>(PS.fq 0).symm
 |k+1=>by simp only[sP,aeB f g k];ac_rfl
def Wh(f:G->PS)(A:PS):∀k,sP (λi=>f i*A) k=sP f k*A
 |0=>(PS.dw A).symm
 |k+1=>by simp only[sP,Wh f A k,PS.gh]
def PG(f:G->PS):∀k,sP f (k+1)=f 0+sP (λi=>f<|i+1) k
 |0=>by simp only[sP];exact PS.js _ _
 |k+1=>by rw[sP,PG f k,sP,PS.jR]
def aqw{m}{f:G->PS}{k}(a:∀i,i<k->Cg m (f i) 0):Cg m (sP f k) 0:=by
 induction k with
 |zero=>exact Cg.refl m _
 |succ k b=>
  have:=(b<|λi d=>a i Y).add<|a k Y
  rwa[PS.fq]at this
def aeC(A B:PS):∀n,pw (A+B) n=sP (λk=>PS.K (ch n k)*(pw A k*pw B (n-k))) (n+1)
 |0=>by rw[show sP (λk=>PS.K (ch 0 k)*(pw A k*pw B (0-k))) (0+1)=0+1*(1*1)from J,PS.im,PS.fv,PS.fv];rfl
 |n+1=>by
  rw[pw,aeC A B n,PS.fE,<-Wh,<-Wh];rw[PG (λk=>PS.K (ch (n+1) k)*(pw A k*pw B (n+1-k))) (n+1)];have a:sP (λi=>PS.K (ch (n+1)<|i+1)*(pw A (i+1)*pw B (n+1-(i+1)))) (n+1)=sP (λi=>PS.K (ch n i)*(pw A i*pw B (n-i))*A) (n+1)+sP (λi=>PS.K (ch n<|i+1)*(pw A (i+1)*pw B (n-i))) (n+1):=by rw[<-aeB];refine Wg<|λi _=>?_;rw[(Y:n+1-(i+1)=n-i),ch,y5,PS.wq,PS.gh,pw];ac_rfl
  have b:sP (λi=>PS.K (ch n i)*(pw A i*pw B (n-i))*B) (n+1)=PS.K (ch (n+1) 0)*(pw A 0*pw B (n+1-0))+sP (λi=>PS.K (ch n<|i+1)*(pw A (i+1)*pw B (n-i))) (n+1):=by
   rw[PG,show sP (λi=>PS.K (ch n<|i+1)*(pw A (i+1)*pw B (n-i))) (n+1)=sP (λi=>PS.K (ch n<|i+1)*(pw A (i+1)*pw B (n-i))) n+PS.K (ch n<|n+1)*(pw A (n+1)*pw B (n-n))from J];rw[Bk n (n+1) Y,tu,tu,show PS.K ((0:G):V)=0 from PS.kV,PS.dw,PS.fq];have d:sP (λi=>PS.K (ch n<|i+1)*(pw A (i+1)*pw B (n-(i+1)))*B) n=sP (λi=>PS.K (ch n<|i+1)*(pw A (i+1)*pw B (n-i))) n:=by refine Wg<|λi g=>?_;rw[(Y:n-i=n-(i+1)+1),pw.eq_2 B];ac_rfl
   rw[d];have f:pw B (n+1-0)=pw B (n-0)*B:=rfl;rw[f];ac_rfl
  rw[a,b];ac_rfl
def eo.Kx{p}(h:eo p) A B:Cg p (pw (A+B) p) (pw A p+pw B p):=by
 rw[aeC];obtain⟨n,rfl⟩:∃n,p=n+1:=⟨p-1,DE⟩;rw[sP,PG];rw[Kw,tu,(Y:n+1-(n+1)=0),A4];have e:Cg ((n+1:G):V) (sP (λi=>PS.K (ch (n+1)<|i+1)*(pw A (i+1)*pw B (n+1-(i+1)))) n) 0:=by refine aqw<|λi g=>?_;have a:=h.PF (k:=i+1) Y Y;have:Cg ((n+1:G):V) (PS.K (ch (n+1) (i+1):G)) (PS.K 0):=Cg.K (by rw[iH];exact DC<|zf.2 a);rw[PS.kV]at this;have b:=this.DD<|pw A (i+1)*pw B (n+1-(i+1));rwa[PS.dw]at b
 have d:PS.K ((1:G):V)*(pw A 0*pw B (n+1))=pw B (n+1):=by rw[show PS.K ((1:G):V)=1 from J,PS.cY,show pw A 0=1 from J,PS.cY]
 have f:PS.K ((1:G):V)*(pw A (n+1)*pw B 0)=pw A (n+1):=by rw[show PS.K ((1:G):V)=1 from J,PS.cY,show pw B 0=1 from J,PS.fv]
 rw[d,f];have:=((Cg.refl ((n+1:G):V)<|pw B<|n+1).add e).add<|Cg.refl _<|pw A<|n+1;rw[PS.fq]at this;rw[PS.js (pw A<|n+1)];exact this
def Wi(a:V):∀n,pw (PS.K a) n=PS.K (a^n)
 |0=>by rw[qN];rfl
 |n+1=>by rw[pw,Wi a n,<-PS.Bj,gG]
def aeD:∀n,pw 1 n=1
 |0=>rfl
 |n+1=>by rw[pw,aeD n,PS.fv]
def eo.G0{p:G}(h:eo p):∀a:G,((a:V)^p)%(p:V)=(a:V)%(p:V)
 |0=>by obtain⟨n,rfl⟩:∃n,p=n+1:=⟨p-1,DE⟩;rw[gG];simp
 |a+1=>by
  have f:=h.G0 a;have b:=(h.Kx (PS.K (a:V)) 1).at 0;rw[show PS.K (a:V)+1=PS.K ((a+1:G):V)by rw[PS.Kq,<-PS.wq];rfl,Wi,aeD,PS.dP,Wi]at b;have d:∀c:V,PS.K c 0=c:=λc=>by simp[PS.K]
  rw[d,d,PS.Kq,d,Ku,f,<-Ku]at b;exact b
def eo.aqx{p a}(h:eo p)(b:¬p∣a):a^(p-1)%p=1:=by
 have d:=h.G0 a;obtain⟨n,rfl⟩:∃n,p=n+1:=⟨p-1,DE⟩;have f:((n+1:G):V)∣(a:V)*((a:V)^n-1):=by rw[GN,oy,fo,<-gG];exact GY<|Wd.1 d
 rcases h.aeA f with e|e
 .exact aJ (zf.1 e) b
 .have h3:((a:V)^n)%((n+1:G):V)=1%((n+1:G):V):=Wd.2<|DC e;have g:(1:V)%((n+1:G):V)=1:=ix o DE;rw[g]at h3;simp only[eD];have:((a^n%(n+1):G):V)=1:=Cd;omega
def eo.inv{p a}(b:eo p)(d:¬p∣a):a*(a^(p-2)%p)%p=1:=by rw[G3,Nat.mod_mod,<-G3];have:=b.aqx d;have f:=b.1;rwa[(Y:p-1=p-2+1),gK,ic]at this
def Wj:∀(f b a n p:G),n<2^f->b<p->tq f b a n p=b*a^n%p
 |0,b,a,n,p,h,hr=>by have:n=0:=eQ;subst this;rw[tq,pW,qG,qK hr]
 |f+1,b,a,n,p,h,hr=>by
  rw[tq];split
  .rename_i i;subst i;rw[pW,qG,qK hr]
  .have k:0<p:=by omega
   have d:n/2<2^f:=by rw[gK]at h;omega
   have g:(a*a%p)^(n/2)%p=a^(2*(n/2))%p:=by rw[<-Nat.pow_mod,<-Nat.pow_two,G4]
   split
   .rename_i l;rw[Wj f _ _ _ _ d (gJ _ k),G3,g,<-G3,Nat.mod_mul_mod];have:a^n=a*a^(2*(n/2)):=by rw[ic,<-gK];congr 1;omega
    rw[this,tn]
   .rename_i l;rw[Wj f _ _ _ _ d hr,G3,g,<-G3];have:2*(n/2)=n:=Y;rw[this]
def aqy a n p(b:n<18446744073709551616)(d:1<p):wm a n p=a^n%p:=by rw[wm,Wj _ _ _ _ _ b<|gJ _ Y,qK d,hY,<-Nat.pow_mod]
def aeE a p(b:p<18446744073709551616)(d:1<p):jD a p=a^(p-2)%p:=aqy a (p-2) p Y d
def Wl(n:G):G->Bool:=λk=>Nat.rec (motive:=λ_=>Bool) af (λi a=>match Nat.beq (n%(i+2)) 0 with|true=>ak|false=>a) k
def aeF{n:G}:∀{k:G},Wl n k=af->∀d,2<=d->d<k+2->n%d≠0
 |0,_,d,h2,f=>by omega
 |k+1,g,d,h2,f=>by
  have a:(match Nat.beq (n%(k+2)) 0 with|true=>ak|false=>Wl n k)=af:=g;split at a
  .cases a
  .rename_i b;by_cases e:d=k+2
   .subst e;intro i;rw[i]at b;cases b
   .exact aeF a d h2 Y
def aqz:Wl 2147483647 46340=af:=e9
def aqA:eo 2147483647:=⟨o,λd a b=>aeF aqz d a (by
 by_cases e:d<46342
 .exact e
 .have:46342*46342<=d*d:=jQ Y Y;omega)⟩
def aeG:∀(m n:G),m+n=2147483647->0<m->∃p,eo p/\n<p/\p<=2147483647/\∀a,n<a->a<p->¬eo a
 |0,_,_,f=>by omega
 |m+1,n,f,_=>by
  by_cases b:eo (n+1)
  .exact⟨n+1,b,Y,Y,λa d g=>Y⟩
  .by_cases i:m=0
   .subst i;have:n+1=2147483647:=Y;rw[this]at b;exact aJ aqA b
   .let ⟨p,d,g,k,l⟩:=aeG m (n+1) Y Y;refine⟨p,d,Y,k,λa u s=>?_⟩;by_cases t:a=n+1
    .rw[t];exact b
    .exact l a Y s
def aeH n(i:eo n)(v:n<=2147483647):aq r 204 [cU n] (cB af):=by
 refine aS Tryz.func204 ?_;have x:=i.1;refine e J<|h<|w<|rg 6 J J (λf=>?_)<|λf=>?_
 .exfalso;have f:(n:V)<2:=aX f;omega
 refine O J<|F J (λk=>?_)<|λ_=>aG ?_
 .exfalso;have k:(n:V)>2147483647:=aX k;omega
 refine h<|e J<|aA<|bx (α:=G) (λd=>⟨[(0,cU n),(3,cU d)],[],4,[]⟩) (λd=>2<=d/\(d-1)*(d-1)<=n) (λd=>n+2-d) 2 ⟨o,Y⟩ aY ?_;rintro d ⟨l,m⟩;have b:d<65536:=by
  by_cases p:d<65536
  .exact p
  .have:65535*65535<=(d-1)*(d-1):=jQ Y Y;omega
 have s:d*d<4294967296:=Ps b b;have t:ay .u64 ((d:V)*(d:V))=((d*d:G):V):=by rw[<-fP,be _ Y Y]
 refine h<|e J<|F J (λa=>?_)<|λa=>?_
 .have a:ay .u64 ((d:V)*(d:V))<=(n:V):=aX a;rw[t]at a;have a:d*d<=n:=Y;have u:=i.2 d l a;refine aG (h<|aA<|e J (hp:=aH)<|F J (λg=>?_)<|λ_=>dk<|bU ?_)
  .exfalso;have g:(n:V).tmod (d:V)=0:=eS g;rw[nQ]at g;omega
  .have:d<=n:=bZ (PH d Y) a;refine rt J<|a6 (d+1) ⟨Y,by rw[eD];exact a⟩ (Y:n+2-(d+1)<n+2-d)<|wk ⟨sR J,sE J ?_,M⟩ M;refine bY ?_;show ay .u64 ((d:V)+1)=((d+1:G):V);rw[be _ Y Y];omega
 .exact bD<|aR<|e J<|di J
def aqB n(u:¬eo n)(z:n<=2147483647):aq r 204 [cU n] (cB ak):=by
 refine aS Tryz.func204 ?_;refine e J<|h<|w<|rg 6 J J (λi=>?_)<|λi=>?_
 .exact O J (F J (λ_=>e J<|bX<|da<|atR J)<|λl=>by cases l)
 have s:2<=n:=by have i:¬(n:V)<2:=bh i;omega
 refine O J<|F J (λl=>?_)<|λ_=>aG ?_
 .exfalso;have l:(n:V)>2147483647:=aX l;omega
 refine h<|e J<|aA<|bx (α:=G) (λd=>⟨[(0,cU n),(3,cU d)],[],4,[]⟩) (λd=>2<=d/\(d-1)*(d-1)<=n/\∀k,2<=k->k<d->n%k≠0) (λd=>n+2-d) 2 ⟨o,Y,λk m s=>Y⟩ aY ?_;rintro d ⟨A,v,b⟩;have f:d<65536:=by
  by_cases g:d<65536
  .exact g
  .have:65535*65535<=(d-1)*(d-1):=jQ Y Y;omega
 have x:d*d<4294967296:=Ps f f;have t:ay .u64 ((d:V)*(d:V))=((d*d:G):V):=by rw[<-fP,be _ Y Y]
 refine h<|e J<|F J (λa=>?_)<|λa=>?_
 .have a:ay .u64 ((d:V)*(d:V))<=(n:V):=aX a;rw[t]at a;have a:d*d<=n:=Y;refine aG (h<|aA<|e J (hp:=aH)<|F J (λp=>?_)<|λp=>dk<|bU ?_)
  .refine e J<|bX ?_;repeat(first|refine da ?_|refine mz ?_|refine m0 ?_)
   exact atR J
  .have p:(n:V).tmod (d:V)≠0:=pa p;rw[nQ]at p;have:d<=n:=bZ (PH d Y) a;refine rt J (a6 (d+1) ⟨Y,by rw[eD];exact a,λk m s=>?_⟩ (Y:n+2-(d+1)<n+2-d)<|wk ⟨sR J,sE J ?_,M⟩ M)
   .by_cases g:k=d
    .subst g;omega
    .exact b k m Y
   .refine bY ?_;show ay .u64 ((d:V)+1)=((d+1:G):V);rw[be _ Y Y];omega
 .exfalso;have a:¬ay .u64 ((d:V)*(d:V))<=(n:V):=bh a;rw[t]at a;refine u ⟨s,λk m i=>b k m ?_⟩;by_cases g:k<d
  .exact g
  .have:d*d<=k*k:=jQ Y Y;omega
def aqC n(l:n<2147483647):∃p,eo p/\n<p/\p<=2147483647/\(∀a,n<a->a<p->¬eo a)/\aq r 174 [cU n] (.t [(ak,[.I .u64 p]),(ak,[.I .i64 0])]):=by
 let ⟨p,d,h2,f,g⟩:=aeG (2147483647-n) n Y Y;refine⟨p,d,h2,f,g,?_⟩;refine aS Tryz.func174 ?_;refine e J<|bA<|e J<|F J (λh=>?_)<|λ_=>aG ?_
 .exfalso;have h:(n:V)>=2147483647:=aX h;omega
 refine e J<|bA<|aA<|bx (α:=G) (λa=>⟨[(4,cU a)],[],4,[]⟩) (λa=>n<a/\a<=p) (λa=>p-a) (n+1) ⟨Y,Y⟩ (wk ⟨sE J ?_,M⟩ M) ?_
 .refine bY ?_;show ay .u64 ((n:V)+1)=((n+1:G):V);rw[be _ Y Y];omega
 rintro a ⟨b,i⟩;by_cases k:a=p
 .subst k;refine bA<|bL J J (aeH a d f) J<|F J (λh=>gD)<|λ_=>?_;exact bD<|aR<|e J<|di J
 .refine bA<|bL J J (aqB a (g a b Y) Y) J<|F J (λ_=>?_)<|λh=>gD;refine aG<|aA<|rt J<|fT<|a6 (a+1) ⟨Y,Y⟩ (Y:p-(a+1)<p-a)<|wk ⟨sE J ?_,M⟩ M;refine bY ?_;show ay .u64 ((a:V)+1)=((a+1:G):V);rw[be _ Y Y];omega
end Go.El
