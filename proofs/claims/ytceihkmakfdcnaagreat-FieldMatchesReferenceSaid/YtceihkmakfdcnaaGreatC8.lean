/- Own work; no condition. -/
import Derived.Test.YtceihkmakfdcnaaGreatC7
import Derived.Test.YtceihkmakfdcnaaGreatC6
set_option linter.all false
set_option maxHeartbeats 16000000
set_option maxRecDepth 100000
open BitVec renaming ofInt->kf
open Bool renaming false->ah,true->ae
open Go.El renaming cS->e,rr->U,re->M,bI->h,cI->c,rb->R,jz->w,NB->F
open Go.IntKind renaming wrap->ax,bits->dx
open Go.Proofs.Tryz renaming prog->O,func190->afv
open Int renaming toNat->af,pow_nonneg->afl,fdiv->WW,natAbs->aC
open List renaming length->Z,replicate->bx,getD->I,take->r,drop->az
open _root_ renaming Int->V,Nat->G,List->E
namespace Go.El
open Go Go.Proofs
def Ec x b s(d:0<=x)(f:x%2^s=0)(g:0<=b)(a:b<2^s)(m:x+b<18446744073709551616):
  ax .u64 ((kf (dx .u64) x|||kf (dx .u64) b).toNat:V)=x+b:=by
 obtain⟨X,rfl⟩:=Ed d
 obtain⟨C,rfl⟩:=Ed g
 have i:((X:V)%2^s)=((X%2^s:G):V):=au
 rw[i]at f
 have a:C<2^s:=by
  have:((C:G):V)<((2^s:G):V):=by rw[wW];exact a
  omega
 have k:(kf (dx .u64) (X:V)|||kf (dx .u64) (C:V)).toNat=X+C:=by
  rw[Qb,Qb,BitVec.toNat_or,Qc,Qc,show dx .u64=64 from J,rk Y,rk Y];have l:X=2^s*(X/2^s):=kw<|tJ X<|2^s
  rw[l,<-Nat.two_pow_add_eq_or_of_lt a]
 rw[k,bf _ Y Y];omega
def BS x s(a:0<=x)(b:s<=64)(d:x*2^s<18446744073709551616):ax .u64 (x*2^(min (af ((s:G):V))<|dx .u64))=x*2^s:=by rw[cC,show min s (dx .u64)=s from uY b,bf _ (kL a<|afl S) d]
def BT(x:V) s(a:s<=64):x.fdiv (2^(min (af ((s:G):V))<|dx .u64))=x/2^s:=by rw[cC,show min s (dx .u64)=s from uY a,D9 _<|afl S]
def afm(x:V) s(a:s<=32):x.fdiv (2^(min (af ((s:G):V))<|dx .u32))=x/2^s:=by rw[cC,show min s (dx .u32)=s from uY a,D9 _<|afl S]
def arD(x:G)(s:0<x)(u:x<4294967296):∃l:G,w O 245 [cW x] (c l)/\l<=32/\1<=l/\x<2^l/\2^l<=2*x:=by
 obtain⟨y,n,m,hy,ex⟩:∃y n:G,(n=0/\y=x/\x<256\/n=8/\y=x/256/\256<=x/\x<65536\/n=16/\y=x/65536/\65536<=x/\x<16777216\/n=24/\y=x/65536/256/\16777216<=x)/\y<256/\0<y:=by
  by_cases a1:x<256
  .exact⟨x,0,.inl ⟨J,J,a1⟩,a1,s⟩
  .by_cases a2:x<65536
   .exact⟨x/256,8,.inr<|.inl ⟨J,J,Y,a2⟩,Y,Y⟩
   .by_cases t:x<16777216
    .exact⟨x/65536,16,.inr<|.inr<|.inl ⟨J,J,Y,t⟩,Y,Y⟩
    .exact⟨x/65536/256,24,.inr<|.inr<|.inr ⟨J,J,Y⟩,Y,Y⟩
 let ⟨l,el,v,h2,p⟩:=aq9 hy;have p:2^l<=2*y:=Y;have A:1<=l:=by
  by_cases e:l=0
  .subst e;simp at h2;omega
  .omega
 refine⟨n+l,?_,Y,Y,?_,?_⟩
 .have f:(x:V).fdiv (2^(min (af ((16:G):V))<|dx .u32))=((x/65536:G):V):=by rw[afm _ _ Y];omega
  have k:∀z:G,(z:V).fdiv (2^(min (af ((8:G):V))<|dx .u32))=((z/256:G):V):=λz=>by rw[afm _ _ Y];omega
  have wu8:∀z:G,z<256->ax .u8 (z:V)=(z:V):=λz B=>by simp[ax,dx,IntKind.signed];omega
  refine aK Tryz.func245 ?_;refine U J<|h<|U J<|F J (λi=>?_)<|λi=>?_
  .have i:65536<=x:=by have i:(65536:V)<=(x:V):=aV i;omega
   refine U J (hp:=aH)<|rt J<|aS<|h<|U J<|F J (λb=>?_)<|λb=>?_
   .have b:256<=x/65536:=by have b:(256:V)<=(x:V).fdiv (2^(min (af ((16:G):V))<|dx .u32)):=aV b;rw[f]at b;omega
    refine U J (hp:=aH)<|rt J (hp:=aH)<|aS<|fq (st':=⟨[(0,cW y),(2,c n)],[],9,[]⟩) (wk ⟨⟨_,J,bu.of_eq<|Gc<|by show WW (WW (x:V)<|2^(min (af ((16:G):V))<|dx .u32)) (2^(min (af ((8:G):V))<|dx .u32))=_;rw[f,k];omega⟩,⟨_,J,bu.of_eq<|jQ Y⟩,j⟩ j)<|R<|rx (x:= .c<|.I .u8 l) (pm:= .le 0<|ax .u8 (y:V)) J (PT J J J J Qd) Qe (hp:=aH)<|M J (hp:=aH)<|cv J<|jQ ?_;show(n:V)+(l:V)=((n+l:G):V);omega
   .have b:x/65536<256:=by have b:¬(256:V)<=(x:V).fdiv (2^(min (af ((16:G):V))<|dx .u32)):=bc b;rw[f]at b;omega
    refine aE<|fq (st':=⟨[(0,cW y),(2,c n)],[],5,[]⟩) (wk ⟨⟨_,J,bu.of_eq<|Gc<|by show WW (x:V) (2^(min (af ((16:G):V))<|dx .u32))=_;rw[f];omega⟩,⟨_,J,bu.of_eq<|jQ Y⟩,j⟩ j)<|R<|rx (x:= .c<|.I .u8 l) (pm:= .le 0<|ax .u8 (y:V)) J (PT J J J J Qd) Qe (hp:=aH)<|M J (hp:=aH)<|cv J<|jQ ?_;show(n:V)+(l:V)=((n+l:G):V);omega
  .have i:x<65536:=by have i:¬(65536:V)<=(x:V):=bc i;omega
   refine aE<|h<|U J<|F J (λb=>?_)<|λb=>?_
   .have b:256<=x:=by have b:(256:V)<=(x:V):=aV b;omega
    refine U J (hp:=aH)<|rt J (hp:=aH)<|aS<|fq (st':=⟨[(0,cW y),(2,c n)],[],5,[]⟩) (wk ⟨⟨_,J,bu.of_eq<|Gc<|by show WW (x:V) (2^(min (af ((8:G):V))<|dx .u32))=_;rw[k];omega⟩,⟨_,J,bu.of_eq<|jQ Y⟩,j⟩ j)<|R<|rx (x:= .c<|.I .u8 l) (pm:= .le 0<|ax .u8 (y:V)) J (PT J J J J Qd) Qe (hp:=aH)<|M J (hp:=aH)<|cv J<|jQ ?_;show(n:V)+(l:V)=((n+l:G):V);omega
   .have b:x<256:=by have b:¬(256:V)<=(x:V):=bc b;omega
    refine aE<|fq (st':=⟨[(0,cW y),(2,c n)],[],3,[]⟩) (wk ⟨⟨_,J,bu.of_eq<|Gc (Y:(x:V)=(y:V))⟩,⟨_,J,bu.of_eq<|jQ Y⟩,j⟩ j)<|R<|rx (x:= .c<|.I .u8 l) (pm:= .le 0<|ax .u8 (y:V)) J (PT J J J J Qd) Qe (hp:=aH)<|M J (hp:=aH)<|cv J<|jQ ?_;show(n:V)+(l:V)=((n+l:G):V);omega
 .rcases m with⟨d,g,a⟩|⟨d,g,a⟩|⟨d,g,a⟩|⟨d,g,a⟩
  .subst d g;simpa using h2
  .subst d;rw[jm];omega
  .subst d;rw[jm];omega
  .subst d;rw[jm];omega
 .rcases m with⟨d,g,a⟩|⟨d,g,a⟩|⟨d,g,a⟩|⟨d,g,a⟩
  .subst d g;simpa using p
  .subst d;rw[jm];omega
  .subst d;rw[jm];omega
  .subst d;rw[jm];omega
def arE(x:G)(a:0<x)(b:x<4294967296):∃s:G,w O 223 [cW x] (c s)/\s<=31/\2147483648<=x*2^s/\x*2^s<4294967296:=by
 let ⟨l,d,m,h2,f,g⟩:=arD x a b;have e:2^l*2^(32-l)=4294967296:=by rw[<-jm,(Y:l+(32-l)=32)]
 have i:0<2^(32-l):=gG S;have n:x*2^(32-l)<2^l*2^(32-l):=WY f i;have k:2^l*2^(32-l)<=2*x*2^(32-l):=dS _ g;rw[mz]at k;refine⟨32-l,aK Tryz.func223 ?_,Y,Y,Y⟩;refine U J<|R<|rc J J d<|M J (hp:=aH)<|cv J<|jQ ?_;show(32:V)-(l:V)=((32-l:G):V);omega
def arF a d(n:cu a)(l:0<d)(p:d<4294967296)(Q:Z a<=1099511627776):w O 222 [e ao a,cU d] (.t [(ah,[.S ao (al<|af<|val a/d)]),(ah,[.I .u64 (val a%d)])]):=by
 refine aK Tryz.func222 ?_;refine U J<|R<|rm ao (Z a) J J J J J J (oe .u32) J ?_ ?_ ?_
 .show _*4<=_;omega
 .show _*1<=_;omega
 refine M J<|U J<|h<|U J<|ay<|bq (α:=G×E V×V) (λx=>⟨[(0,e ao a),(1,cU d),(6,.c<|.X 1002000),(7,cU x.2.2),(8,c<|(x.1:V)-1)],[(1002000,.vec 142 ao x.2.1)],4,[]⟩) (Hu a d) (λx=>x.1) (Z a,bx (Z a) 0,0) ⟨aL _,au,tT _,iZ _,l,zO⟩ aN ?_
 .rintro⟨k,q,r⟩ b;have u:Z q=Z a:=b.len;have i:0<=r:=b.r0;have m:r<d:=b.r1;have T:k<=Z a:=b.k;refine h<|U J<|F J (λf=>?_) (λf=>?_)
  .have f:(k:V)-1>=0:=by simpa using f
   obtain⟨j,rfl⟩:∃j,k=j+1:=⟨k-1,Y⟩;have z:af (((j+1:G):V)-1)=j:=Y;have g:=dI n j;have D:=PH i m g.1 g.2 p;have A:=b.next n p;refine aE<|h<|ay<|U J (hp:=aH) ?_;have B:ax .u64 ((kf (dx .u64) (ax .u64<|r*2^(min (af ((32:G):V))<|dx .u64))|||kf (dx .u64) (ax .u64<|I a (af<|((j+1:G):V)-1) 0)).toNat:V)=r*4294967296+I a j 0:=by rw[z,BS r 32 i Y Y,bf (I a j 0) Y Y,Ec (r*2^32) (I a j 0) 32 Y (HI _ _) Y Y Y,show(2:V)^32=4294967296 from J]
   generalize ht:r*4294967296+I a j 0=s at A D B;have H:ax .u32 (ax .u64<|s.tdiv d)=s/d:=by rw[wP Y,bf _ Y Y,oo _ Y Y]
   have K:s.tmod d=s%d:=k5 Y;refine fq (st':=⟨[(0,e ao a),(1,cU d),(6,.c<|.X 1002000),(8,c<|((j+1:G):V)-1),(9,cU s)],[(1002000,.vec 142 ao q)],6,[]⟩) (wk ⟨sR J,sR J,sR J,sR J,sE J ?_,fp⟩ ⟨bR J,fp⟩) ?_
   .exact cj B
   refine U J<|rt J<|bP<|rt J<|a4 (j,q.set j<|s/d,s%d) A vk<|wk ⟨sR J,sR J,sR J,sE J<|cj K,sE J ?_,fp⟩ ⟨bE J ?_,fp⟩
   .refine jQ ?_;show((j+1:G):V)-1-1=(j:V)-1;omega
   .rw[H,z]
  .have f:¬((k:V)-1>=0):=by simpa using f
   have:k=0:=Y;subst this;refine bs<|aS<|dv 1002000 J J J<|R<|rc J J (yg _)<|M J<|cv J ?_;have C:val a=val q*d+r:=b.v;have N:cu q:=b.r;have eq:val a/d=val q:=by rw[C,yh,D6 _ _ Y,Hw i m];omega
   have P:val a%d=r:=by rw[C,yh,Wq,iN i m]
   rw[rf N,eq,P];rfl
def arG{a}(b:cu a) s i:0<=val (r i a)*2^s/4294967296^i/\val (r i a)*2^s/4294967296^i<2^s:=by have k:=oT<|kj b i;have l:=wO (m:=(r i a).length) (n:=i) cd;have f:=k4 i;have g:(0:V)<2^s:=pI S;refine⟨BM (kL (nF<|kj b i) Y) Y,Hv f ?_⟩;rw[fL];exact Int.mul_lt_mul_of_pos_left Y g
def arH a s i:
  cp (i+1) (val (r (i+1) a)*2^s)=cp i (val (r i a)*2^s)++[(I a i 0*2^s+val (r i a)*2^s/4294967296^i)%4294967296]/\
  val (r (i+1) a)*2^s/4294967296^(i+1)=(I a i 0*2^s+val (r i a)*2^s/4294967296^i)/4294967296:=by
 have d:=k4 i
 have e:val (r (i+1) a)*2^s=val (r i a)*2^s+I a i 0*2^s*4294967296^i:=by rw[lP,pJ,ko,fL<|4294967296^i,<-ko]
 have b:val (r (i+1) a)*2^s/4294967296^i=I a i 0*2^s+val (r i a)*2^s/4294967296^i:=by rw[e,D6 _ _ Y,yh]
 refine⟨?_,by rw[P0,b]⟩
 rw[HB,b,e,WE]
def afo xs n(a:V):(xs++bx (n+1) 0).set (Z xs) a=(xs++[a])++bx n 0:=by rw[P6 _ _ (aL _),kg,Bb,WG,nt];rfl
def afp a(s:G)(z:cu a)(B:s<=31)(N:Z a<=1099511627776):qq O 224 [e ao a,c s] 142 ao (cp (Z a+1)<|val a*2^s):=by
 refine KH Tryz.func224 J J J J S ?_;have u:(2:V)^s<=2^31:=by have:=dD (S:2>0) B;have A:(2:V)^s=((2^s:G):V):=au;omega
 have C:(0:V)<2^s:=pI S;refine U J<|R<|rm ao (Z a+1) J J J J J J (oe .u32) J ?_ ?_ ?_
 .show _*4<=_;omega
 .show _*1<=_;omega
 refine M J<|U J<|h<|U J<|ay<|bq (α:=G) (λi=>⟨[(0,e ao a),(1,c s),(5,.c<|.X 1003000),(6,cU<|val (r i a)*2^s/4294967296^i),(14,c<|Z a),(15,c i)],[(1003000,.vec 142 ao<|cp i (val (r i a)*2^s)++bx (Z a+1-i) 0)],4,[]⟩) (λi=>i<=Z a) (λi=>Z a-i) 0 (bg _) (wk ⟨sR J,sR J,sR J,sE J ?_,sR J,sR J,j⟩ ⟨bE J ?_,j⟩) ?_
 .simp[val];rfl
 .simp[cp]
 intro i P;have l:=arG z s i;have d:=arH a s i;have b:Z (cp i<|val (r i a)*2^s)=i:=vo _ _;generalize m:val (r i a)*2^s/4294967296^i=f at l d;refine U J<|h<|F J (λk=>?_)<|λk=>?_
 .have k:i<Z a:=by simpa using k
  have g:=dI z i;have v:0<=I a i 0*2^s:=kL g.1 Y;have D:I a i 0*2^s<=4294967295*2^31:=zT Y u Y S;refine aE<|h<|ay<|U J<|U J (hp:=aH) ?_;have H:ax .u64 ((kf (dx .u64) (ax .u64<|ax .u64 (I a (af (i:V)) 0)*2^(min (af ((s:G):V))<|dx .u64))|||kf (dx .u64) f).toNat:V)=I a i 0*2^s+f:=by rw[cC i,bf (I a i 0) Y Y,BS _ s g.1 Y Y,Ec _ f s v (HI _ _) l.1 l.2 Y]
  generalize ht:I a i 0*2^s+f=t at*;refine fq (st':=⟨[(0,e ao a),(1,c s),(5,.c<|.X 1003000),(7,c i),(8,cU t),(14,c<|Z a),(15,c i)],[(1003000,.vec 142 ao<|cp i (val (r i a)*2^s)++bx (Z a+1-i) 0)],7,[]⟩) (wk ⟨sR J,sR J,sR J,sR J,sE J ?_,sR J,sR J,j⟩ ⟨bR J,j⟩) ?_
  .exact cj H
  have x:Z (cp i (val (r i a)*2^s)++bx (Z a+1-i) (0:V))=Z a+1:=by rw[iV,b,ig];omega
  refine U J (hp:=aH)<|rt J (hp:=aH)<|bP<|rt J<|a4 (i+1) k ri<|wk ⟨sR J,sR J,sR J,sE J ?_,sR J,sR J,j⟩ ⟨bE J ?_,j⟩
  .refine cj ?_;rw[d.2];exact BT t 32 Y
  .refine bm (aA.vec 142 ao) ?_;have A:ax .u32 t=t%4294967296:=PM;have n:=afo (cp i<|val (r i a)*2^s) (Z a-i)<|t%4294967296;rw[b,(Y:Z a-i+1=Z a+1-i)]at n;rw[A,cC,n,d.1,(Y:Z a-i=Z a+1-(i+1))]
 .have k:¬i<Z a:=by simpa using k
  have K:i=Z a:=Y;subst K;have p:f<4294967296:=Y;have x:Z (cp (Z a) (val (r (Z a) a)*2^s)++bx (Z a+1-Z a) (0:V))=Z a+1:=by rw[iV,b,ig];omega
  refine bs<|aS<|U J (hp:=aH)<|U J<|fq (st':=⟨[(4,.c<|.X 1003000)],[(1003000,.vec 142 ao<|cp (Z a+1)<|val a*2^s)],20,[]⟩) (wk ⟨sR J,j⟩ ⟨bE J<|bm (aA.vec 142 ao) ?_,j⟩)<|bX<|KG (id:=1003000) cq J J;have n:=afo (cp (Z a)<|val (r (Z a) a)*2^s) 0 f;rw[b]at n;rw[oo f l.1 p,cC,(Y:Z a+1-Z a=0+1),n,Gf,ji,HB,iG];rw[iG]at m;rw[m,iN l.1 p]
def arI t s(a:0<=t)(i:t<18446744073709551616)(d:s<=31):
  ax .u64 ((kf (dx .u64) t&&& kf (dx .u64) (ax .u64<|ax .u64 (1*2^(min (af ((s:G):V))<|dx .u64))-1)).toNat:V)=t%2^s:=by
 have k:2^s<=2^31:=dD S d
 have b:0<2^s:=gG S
 have f:(2:V)^s=((2^s:G):V):=au
 obtain⟨T,rfl⟩:=Ed a
 rw[BS 1 s S Y Y,mu,bf (2^s-1) Y Y]
 have g:(2:V)^s-1=((2^s-1:G):V):=Y
 rw[g,Qb,Qb,BitVec.toNat_and,Qc,Qc,show dx .u64=64 from J,rk Y,rk Y,Nat.and_two_pow_sub_one_eq_mod]
 have:=gU T b
 rw[bf _ Y Y,f,K6]
def arJ a(s:G)(m:cu a)(n:s<=31)(N:Z a<=1099511627776):w O 226 [e ao a,c s] (e ao<|al<|af<|val a/2^s):=by
 refine aK Tryz.func226 ?_;have C:(2:V)^s<=2^31:=by have:=dD (S:2>0) n;have K:(2:V)^s=((2^s:G):V):=au;omega
 have f:(0:V)<2^s:=pI S;refine U J<|R<|rm ao (Z a) J J J J J J (oe .u32) J ?_ ?_ ?_
 .show _*4<=_;omega
 .show _*1<=_;omega
 refine M J<|U J<|h<|U J<|ay<|bq (α:=G×E V×V) (λx=>⟨[(0,e ao a),(1,c s),(5,.c<|.X 1002000),(6,cU x.2.2),(7,c<|(x.1:V)-1)],[(1002000,.vec 142 ao x.2.1)],4,[]⟩) (Hu a<|2^s) (λx=>x.1) (Z a,bx (Z a) 0,0) ⟨aL _,au,tT _,iZ _,f,zO⟩ aN ?_
 .rintro⟨k,q,r⟩ b;have p:Z q=Z a:=b.len;have i:0<=r:=b.r0;have u:r<2^s:=b.r1;have P:k<=Z a:=b.k;refine h<|U J<|F J (λd=>?_) (λd=>?_)
  .have d:(k:V)-1>=0:=by simpa using d
   obtain⟨j,rfl⟩:∃j,k=j+1:=⟨k-1,Y⟩;have z:af (((j+1:G):V)-1)=j:=Y;have g:=dI m j;have l:=PH i u g.1 g.2 Y;have A:=b.next m Y;refine aE<|h<|ay<|U J (hp:=aH) ?_;have B:ax .u64 ((kf (dx .u64) (ax .u64<|r*2^(min (af ((32:G):V))<|dx .u64))|||kf (dx .u64) (ax .u64<|I a (af<|((j+1:G):V)-1) 0)).toNat:V)=r*4294967296+I a j 0:=by rw[z,BS r 32 i Y Y,bf (I a j 0) Y Y,Ec (r*2^32) (I a j 0) 32 Y (HI _ _) Y Y Y,show(2:V)^32=4294967296 from J]
   generalize ht:r*4294967296+I a j 0=t at A l B;refine fq (st':=⟨[(0,e ao a),(1,c s),(5,.c<|.X 1002000),(7,c<|((j+1:G):V)-1),(8,cU t)],[(1002000,.vec 142 ao q)],6,[]⟩) (wk ⟨sR J,sR J,sR J,sR J,sE J ?_,fp⟩ ⟨bR J,fp⟩) ?_
   .exact cj B
   refine U J (hp:=aH)<|rt J (hp:=aH)<|bP<|rt J<|a4 (j,q.set j<|t/2^s,t%2^s) A vk<|wk ⟨sR J,sR J,sR J,sE J<|cj<|arI t s l.1 l.2.1 n,sE J ?_,fp⟩ ⟨bE J ?_,fp⟩
   .refine jQ ?_;show((j+1:G):V)-1-1=(j:V)-1;omega
   .refine bm (aA.vec 142 ao) ?_;rw[BT t s Y,z,oo _ Y Y]
  .have d:¬((k:V)-1>=0):=by simpa using d
   have:k=0:=Y;subst this;refine bs<|aS<|dv 1002000 J J J<|R<|rc J J (yg _)<|M J<|cv J ?_;have D:val a=val q*2^s+r:=b.v;have H:cu q:=b.r;have eq:val a/2^s=val q:=by rw[D,yh,D6 _ _ Y,Hw i u];omega
   rw[rf H,eq]
def sT n:ax .u64 n=n%18446744073709551616:=PM
def zY n:ax .u32 n=n%4294967296:=PM
def zZ{x a:V}(h:(x !=a)=ae):x≠a:=fg
def yj{x a:V}(h:(x !=a)=ah):x=a:=fg
def arK a b(p:cu a)(s:cu b)(B:can a)(D:can b):w O 161 [e ao a,e ao b] (c<|eR (val a)<|val b):=by
 refine aK Tryz.func161<|xN 0 J λu=>xN 1 J λv=>?_;simp[ET.n,rh]at u v;refine U J<|h<|U J<|F J (λi=>?_)<|λi=>?_
 .have i:Z a≠Z b:=by have i:=zZ i;omega
  refine h<|U J<|F J (λd=>?_)<|λd=>?_
  .have d:Z a<Z b:=by have d:(Z a:V)<(Z b:V):=aV d;omega
   refine U J<|bX ?_;repeat(first|refine cY ?_|refine ma ?_|refine m0 ?_)
   refine fK J ?_;rw[eR,q<|PD p s D d];rfl
  .have d:¬Z a<Z b:=by have d:¬(Z a:V)<(Z b:V):=bc d;omega
   refine aE<|U J<|bX ?_;repeat(first|refine cY ?_|refine ma ?_|refine m0 ?_)
   refine fK J ?_;have:=PD s p B Y;rw[eR,y Y,q this];rfl
 .have x:Z a=Z b:=by have i:=yj i;omega
  refine aE<|h<|U J<|ay<|bq (α:=G) (λk=>⟨[(0,e ao a),(1,e ao b),(5,c<|(k:V)-1)],[],3,[]⟩) (λk=>k<=Z a/\az k a=az k b) (λk=>k) (Z a) ⟨aL _,by simp[x]⟩ aN ?_;rintro k ⟨H,m⟩;refine h<|U J<|F J (λz=>?_)<|λz=>?_
  .simp at z;obtain⟨j,rfl⟩:∃j,k=j+1:=⟨k-1,Y⟩;have C:(((j+1:G):V)-1)=j:=Y;have g:j<Z a:=Y;rw[C];refine aE<|h<|ay<|U J<|F J (λt=>?_) (λt=>?_)
   .have t:I a j 0≠I b j 0:=zZ t;refine h<|U J<|F J (λl=>?_) (λl=>?_)
    .have l:I a j 0<I b j 0:=aV l;refine U J<|bX ?_;repeat(first|refine cY ?_|refine ma ?_|refine m0 ?_)
     refine fK J ?_;rw[eR,q<|PE p s j m x g l];rfl
    .have l:¬I a j 0<I b j 0:=bc l;refine aE<|U J<|bX ?_;repeat(first|refine cY ?_|refine ma ?_|refine m0 ?_)
     refine fK J ?_;have:=PE s p j m.symm x.symm Y Y;rw[eR,y Y,q this];rfl
   .have A:I a j 0=I b j 0:=yj t;refine di<|bP<|rt J<|a4 j ⟨Y,?_⟩ vk aN;have f:j<Z b:=Y;rw[tU g,tU f,m];simp[aO,df g,df f,tK]at A;rw[A]
  .simp at z;have:k=0:=Y;subst this;refine bs<|aS<|U J<|bX ?_;repeat(first|refine cY ?_|refine ma ?_|refine m0 ?_)
   refine fK J ?_;simp[sr]at m;rw[m,eR,y Y,y Y];rfl
def Qf m k:w O 161 [e ao (al m),e ao<|al k] (c<|eR m k):=by have:=arK (al m) (al k) (fc m) (fc k) (yf m)<|yf k;rw[fv,fv]at this;exact this
def arL a b(s:cu a)(t:cu b)(Q:Z b<=Z a)(B:val b<=val a)(T:Z a<=1099511627776):w O 162 [e ao a,e ao b] (e ao<|al<|af<|val a-val b):=by
 refine aK Tryz.func162 ?_;refine U J<|R<|rm ao (Z a) J J J J J J (oe .u32) J ?_ ?_ ?_
 .show _*4<=_;omega
 .show _*1<=_;omega
 refine re J<|U J<|h<|U J ?_;generalize hM:Z a=M;refine ay<|bq (α:=G×E V×V) (λx=>⟨[(0,e ao a),(1,e ao b),(5,.c<|.X 1002000),(6,cU x.2.2),(13,c M),(14,c x.1)],[(1002000,.vec 142 ao x.2.1)],4,[]⟩) (KU a b M) (λx=>M-x.1) (0,bx M 0,0) ?_ aN ?_
 .refine⟨bg _,au,tT M,?_,iZ _,KT,D1⟩;intro W _;simp[aO,nG];split<;>rfl
 .rintro⟨i,o,f⟩ k;have l:Z o=M:=k.len;have C:0<=f:=k.c0;have D:f<=1:=k.c1;have u:i<=M:=k.i;have q:=dI s i;have y:=dI t i;refine U J<|h<|F J (λg=>?_) (λg=>?_)
  .have g:i<M:=by have g:(i:V)<(M:V):=aV g;omega
   have n:=k.next g s t;simp only at n;refine aE<|h<|ay<|U J<|U J (hp:=aH)<|h<|U J<|F J (λh2=>?_)<|λh2=>?_
   .have h2:i<Z b:=by have h2:(i:V)<(Z b:V):=aV h2;omega
    refine rt J (hp:=aH)<|aS ?_;have m:ax .u64 (ax .u64 (ax .u64 (I a (af (i:V)) 0)-f)-ax .u64 (I b (af (i:V)) 0))=(I a i 0-I b i 0-f)%18446744073709551616:=by rw[cC,sT,sT,sT,sT];omega
    generalize H:(I a i 0-I b i 0-f)%18446744073709551616=d at m;refine fq (st':=⟨[(0,e ao a),(1,e ao b),(5,.c<|.X 1002000),(7,c i),(8,cU d),(13,c M),(14,c i)],[(1002000,.vec 142 ao o)],20,[]⟩) (wk ⟨sR J,sR J,sR J,sR J,sE J ?_,sR J,sR J,j⟩ ⟨bR J,j⟩) ?_
    .exact cj m
    refine U J (hp:=aH)<|rt J (hp:=aH)<|bP<|rt J<|a4 (i+1,o.set i<|(4294967296+I a i 0-I b i 0-f)%4294967296,1-(4294967296+I a i 0-I b i 0-f)/4294967296) n zM<|wk ⟨sR J,sR J,sR J,sE J ?_,sR J,sR J,j⟩ ⟨bE J ?_,j⟩
    .refine cj ?_;show d.fdiv (2^(min (af ((63:G):V))<|dx .u64))=1-(4294967296+I a i 0-I b i 0-f)/4294967296;rw[BT d 63 Y];omega
    .refine bm (aA.vec 142 ao) ?_;show o.set (af (i:V)) (ax .u32 d)=o.set i ((4294967296+I a i 0-I b i 0-f)%4294967296);rw[cC,zY];exact bm (o.set i) Y
   .have h2:¬i<Z b:=by have h2:¬(i:V)<(Z b:V):=bc h2;omega
    have K:I b i 0=0:=WA;refine aE ?_;have m:ax .u64 (ax .u64 (I a (af (i:V)) 0)-f)=(I a i 0-I b i 0-f)%18446744073709551616:=by rw[cC,sT,sT];omega
    generalize H:(I a i 0-I b i 0-f)%18446744073709551616=d at m;refine fq (st':=⟨[(0,e ao a),(1,e ao b),(5,.c<|.X 1002000),(7,c i),(8,cU d),(13,c M),(14,c i)],[(1002000,.vec 142 ao o)],20,[]⟩) (wk ⟨sR J,sR J,sR J,sR J,sE J ?_,sR J,sR J,j⟩ ⟨bR J,j⟩) ?_
    .exact cj m
    refine U J (hp:=aH)<|rt J (hp:=aH)<|bP<|rt J<|a4 (i+1,o.set i<|(4294967296+I a i 0-I b i 0-f)%4294967296,1-(4294967296+I a i 0-I b i 0-f)/4294967296) n zM<|wk ⟨sR J,sR J,sR J,sE J ?_,sR J,sR J,j⟩ ⟨bE J ?_,j⟩
    .refine cj ?_;show d.fdiv (2^(min (af ((63:G):V))<|dx .u64))=1-(4294967296+I a i 0-I b i 0-f)/4294967296;rw[BT d 63 Y];omega
    .refine bm (aA.vec 142 ao) ?_;show o.set (af (i:V)) (ax .u32 d)=o.set i ((4294967296+I a i 0-I b i 0-f)%4294967296);rw[cC,zY];exact bm (o.set i) Y
  .have g:¬i<M:=by have g:¬(i:V)<(M:V):=bc g;omega
   have u:i=M:=Y;subst u;refine bs<|aS<|dv 1002000 J J J<|R<|rc J J (yg _)<|re J<|cv J ?_;have z:cu o:=k.r;have A:val o-f*4294967296^i=val (r i a)-val (r i b):=k.v;rw[om a i Y,om b i Y]at A;have N:f=0:=by
    have P:=oT z;rw[l]at P;rcases(Y:f=0\/f=1)with p|p
    .exact p
    .subst p;omega
   subst N;rw[rf z,<-A];simp
def WZ m k(a:k<=m)(b:Z (al m)<=1099511627776):w O 162 [e ao (al m),e ao<|al k] (e ao<|al<|m-k):=by have:=arL (al m) (al k) (fc m) (fc k) (vn a) (by rw[fv,fv];omega) b;rw[fv,fv,(Y:af ((m:V)-(k:V))=m-k)]at this;exact this
def arM d f m k(l:Z (al m)<=1099511627776)(n:Z (al k)<=1099511627776):w O 130 [.a [.B d,.S ao<|al m],.a [.B f,.S ao<|al k]] (aZ<|sg d m+sg f k):=by
 refine aK Tryz.func130 ?_;refine U J<|h<|U J<|F J (λg=>?_)<|λg=>?_
 .have g:d=f:=dw g;subst g;refine R<|rc J J (ae2 _ _ l n)<|rc J J (ru _ _)<|M J<|bX<|cY<|fK J ?_;have i:sg d (m+k)=sg d m+sg d k:=by unfold sg;split<;>omega
  exact bm aZ i
 .have g:d≠f:=λe=>by subst e;simp at g
  refine aE<|h<|bQ J J (Qf _ _) J<|F J (λb=>?_)<|λb=>?_
  .have b:k<=m:=by have b:eR (m:V) (k:V)>=0:=aV b;unfold eR at b;split at b<;>omega
   refine R<|rc J J (WZ _ _ b l)<|rc J J (ru _ _)<|M J<|bX<|cY<|fK J ?_;have i:sg d (m-k)=sg d m+sg f k:=by unfold sg;cases d<;>cases f<;>simp at g⊢<;>omega
   exact bm aZ i
  .have b:m<=k:=by
    have b:¬eR (m:V) (k:V)>=0:=bc b;unfold eR at b;split at b
    .omega
    .split at b<;>omega
   refine aE<|R<|rc J J (WZ _ _ b n)<|rc J J (ru _ _)<|M J<|cv J ?_;have i:sg f (k-m)=sg d m+sg f k:=by unfold sg;cases d<;>cases f<;>simp at g⊢<;>omega
   exact bm aZ i
def arN a b(d:Sm a)(f:Sm b):w O 130 [aZ a,aZ b] (aZ<|a+b):=by have h:=arM (cD a) (cD b) (aC a) (aC b) d f;rw[BK,BK]at h;exact h
def pN{x a:V}(h:(x==a)=ah):x≠a:=fg
def arO g v a n(hU:cu g)(hv:cu v)(hn:Z v=n+2)(hj:a+n+3<=Z g)(hl:Z g<=1099511627777)(arP:2147483648<=I v (n+1) 0)(jK:val ((az a g).take<|n+3)<val v*4294967296):
  wG O 225 [.c (.W 0 a<|n+3),e ao v] 142 ao g (cW<|val ((az a g).take<|n+3)/val v) (dt g a<|cp (n+3)<|val ((az a g).take<|n+3)%val v):=by
 refine KI Tryz.func225 J J J J J S ?_
 have K:=aff hU hv hn hj arP jK
 have g1:=dI hU<|a+(n+2)
 have g2:=dI hU<|a+(n+1)
 have g3:=dI hU<|a+n
 have k1:=dI hv<|n+1
 have k2:=dI hv n
 have qu:=K.qu
 have hvp:=K.Hy
 have a1:af ((Z v:V))=n+2:=Y
 have a2:af ((Z v:V)-1)=n+1:=Y
 have a3:af ((Z v:V)-2)=n:=Y
 generalize hQ:tW 2 ((I g (a+(n+2)) 0*4294967296+I g (a+(n+1)) 0)/I v (n+1) 0) ((I g (a+(n+2)) 0*4294967296+I g (a+(n+1)) 0)%I v (n+1) 0) (I v (n+1) 0) (I v n 0) (I g (a+n) 0)=k
 refine U J<|U J<|U J (hp:=aH) ?_
 rw[a1,a2]
 have e6:ax .u64 ((kf (dx .u64) (ax .u64<|ax .u64 (I g (a+(n+2)) 0)*2^(min (af ((32:G):V))<|dx .u64))|||kf (dx .u64) (ax .u64<|I g (a+(n+1)) 0)).toNat:V)=I g (a+(n+2)) 0*4294967296+I g (a+(n+1)) 0:=by rw[bf (I g (a+(n+2)) 0) Y Y,bf (I g (a+(n+1)) 0) Y Y,BS _ 32 Y Y Y,Ec _ _ 32 Y (HI _ _) Y Y Y,show(2:V)^32=4294967296 from J]
 have ev1:ax .u64 (I v (n+1) 0)=I v (n+1) 0:=bf _ Y Y
 have ev2:ax .u64 (I v n 0)=I v n 0:=bf _ Y Y
 have eu2:ax .u64 (I g (a+n) 0)=I g (a+n) 0:=bf _ Y Y
 have N:0<=I g (a+(n+2)) 0*4294967296+I g (a+(n+1)) 0:=Y
 have ht1:I g (a+(n+2)) 0*4294967296+I g (a+(n+1)) 0<18446744073709551616:=Y
 have Kt:=@Kn1.small _ _ _ _ _ _ _ _ _ K
 have dG:=@PU _ _ _ _ _ _ _ _ _ K
 have hfi:=K.first
 have K2:=K.q0
 refine fq (st':=⟨[(0,.c<|.W 0 a<|n+3),(1,e ao v),(5,c<|Z v),(6,cU<|I g (a+(n+2)) 0*4294967296+I g (a+(n+1)) 0)],[(0,.vec 142 ao g)],4,[]⟩) (wk ⟨sR J,sR J,sR J,sE J ?_,j⟩ ⟨bR J,j⟩) ?_
 .exact cj e6
 generalize I g (a+(n+2)) 0*4294967296+I g (a+(n+1)) 0=t at*
 generalize WR:I v (n+1) 0=v1 at*
 generalize arU:I v n 0=v2 at*
 generalize arV:I g (a+n) 0=u2 at*
 generalize hue:val ((az a g).take<|n+3)=u at*
 have x1:ax .u64 (I v (af<|(Z v:V)-1) 0)=v1:=by rw[a2,WR];exact ev1
 have x2:ax .u64 (I v (af<|(Z v:V)-2) 0)=v2:=by rw[a3,arU];exact ev2
 have x3:ax .u64 (I g (a+af ((Z v:V)-2)) 0)=u2:=by rw[a3,arV];exact eu2
 have W0:0<=t/v1:=BM N Y
 have BQ:0<=t%v1:=jG _ Y
 have tP:t%v1<v1:=jH _ Y
 have cK:=pM t v1
 have T:((-9223372036854775808<=(Z v:V)-1/\(Z v:V)-1<=9223372036854775807)/\0<=(Z v:V)-1/\(Z v:V)-1<(Z v:V))/\ax .u64 (I v (af<|(Z v:V)-1) 0)≠0:=by rw[x1];omega
 have hQq:=dG 2 (t/v1) (t%v1) (by rw[fL];omega) BQ Y WC hfi
 rw[hQ]at hQq
 let ⟨q1,q2,q3⟩:=hQq
 refine U J (hp:=by simp only[Pr.an,Pr.h,num,ia,true_and,and_true];exact⟨⟨⟨T,T.1.1⟩,T.1.2⟩,T.2⟩) ?_
 refine kp ⟨[(0,.c<|.W 0 a<|n+3),(1,e ao v),(5,c<|Z v),(7,cU k)],[(0,.vec 142 ao g)],30,[]⟩ ?_<|λE=>ay<|bq (α:=G×V×V) (λx=>⟨[(0,.c<|.W 0 a<|n+3),(1,e ao v),(5,c<|Z v),(6,cU t),(7,cU x.2.1),(8,cU x.2.2)],[(0,.vec 142 ao g)],6,[]⟩) (λx=>tW x.1 x.2.1 x.2.2 v1 v2 u2=k/\t=x.2.1*v1+x.2.2/\0<=x.2.2/\x.2.2<4294967296/\4294967296<=x.2.2+x.1*2147483648/\u/val v<=x.2.1) (λx=>x.1) (2,t/v1,t%v1) ⟨hQ,by show t=t/v1*v1+t%v1;rw[fL];omega,BQ,(Y:t%v1<4294967296),WC,hfi⟩ (wk ⟨sR J,sR J,sR J,sR J,sE J ?_,sE J ?_,j⟩ ⟨bR J,j⟩) ?_
 .clear dG Kt hQ;refine U J<|bI<|U J ?_;refine ay (bq (α:=G×V×V) (λx=>⟨[(0,.c<|.W 0 a<|n+3),(1,e ao v),(5,c<|Z v),(7,cU k),(9,cU x.2.1),(10,cU x.2.2),(82,c<|Z v),(83,c x.1)],[(0,.vec 142 ao<|dt g a<|cp x.1<|val ((az a g).take x.1)-k*val (List.take x.1 v))],32,[]⟩) (λx=>x.1<=n+2/\(val ((az a g).take x.1)-k*val (List.take x.1 v))/4294967296^x.1= -(x.2.1+x.2.2)/\x.2.1=k*val (List.take x.1 v)/4294967296^x.1/\(x.2.2=0\/x.2.2=1)) (λx=>n+2-x.1) (0,0,0) ⟨bg _,zO,zO,.inl J⟩ (wk (bK J) ⟨bE J ?_,j⟩) ?_)
  .exact bm (aA.vec 142 ao) (P3 g a).symm
  rintro⟨i,B,b⟩ ⟨H,h2,L,h4⟩;simp only at H h2 L h4;have l:=afd hv (Y:0<=k) q3 i;rw[<-L]at l;have gu:=dI hU<|a+i;have P:=afb g v a i k (c:=B) (b:=b) J h2;have Q:Z (cp i<|val ((az a g).take i)-k*val (List.take i v))=i:=vo _ _;have zC:=zW (U:=g) (j:=a) (ws:=cp i<|val ((az a g).take i)-k*val (List.take i v)) Y;have C:=P4 (U:=g) (j:=a) (ws:=cp i<|val ((az a g).take i)-k*val (List.take i v)) Y;have D:=λw=>P5 (U:=g) (j:=a) (ws:=cp i<|val ((az a g).take i)-k*val (List.take i v)) w Y
  rw[Q]at C D;simp only at P;let ⟨s1,s2⟩:=P;refine U J<|bI ?_;refine F J (λh=>?_)<|λh=>?_
  .have h:i<n+2:=by have h:(i:V)<(Z v:V):=aV h;omega
   have gv:=dI hv i;have hm:0<=k*I v i 0/\k*I v i 0<=18446744065119617025:=KV Y Y gv.1 Y;have Uk:=afe (v:=v) (q:=k) i L;refine aE<|bI<|ay<|U J<|U J (hp:=aH) ?_;have ei:af (i:V)=i:=cC i;have o:ax .u64 (ax .u64 (k*ax .u64 (I v (af (i:V)) 0))+B)=k*I v i 0+B:=by rw[ei,bf (I v i 0) Y Y,bf (k*I v i 0) Y Y,bf _ Y Y]
   generalize hp:k*I v i 0+B=p at*;refine fq (st':=⟨[(0,.c<|.W 0 a<|n+3),(1,e ao v),(5,c<|Z v),(7,cU k),(10,cU b),(11,c i),(12,cU p),(82,c<|Z v),(83,c i)],[(0,.vec 142 ao<|dt g a<|cp i<|val ((az a g).take i)-k*val (List.take i v))],40,[]⟩) (wk ⟨sR J,sR J,sR J,sR J,sR J,sR J,sE J ?_,sR J,sR J,j⟩ ⟨bR J,j⟩) ?_
   .exact cj o
   generalize hX:dt g a (cp i<|val ((az a g).take i)-k*val (List.take i v))=X at*;refine U J<|U J (hp:=aH) ?_;have w2:p.fdiv (2^(min (af ((32:G):V))<|dx .u64))=p/4294967296:=BT p 32 Y;have w3:ax .u64 (ax .u64 (ax .u64 (X.getD (a+af (i:V)) 0)-ax .u64 (ax .u32 p))-b)=(I g (a+i) 0-p%4294967296-b)%18446744073709551616:=by rw[ei,C,sT,sT,sT,sT,zY];omega
   generalize hd:(I g (a+i) 0-p%4294967296-b)%18446744073709551616=d at*;refine fq (st':=⟨[(0,.c<|.W 0 a<|n+3),(1,e ao v),(5,c<|Z v),(7,cU k),(9,cU<|p/4294967296),(11,c i),(13,cU d),(82,c<|Z v),(83,c i)],[(0,.vec 142 ao X)],44,[]⟩) (wk ⟨sR J,sR J,sR J,sR J,sE J ?_,sR J,sE J ?_,sR J,sR J,j⟩ ⟨bR J,j⟩) ?_
   .exact cj w2
   .exact cj w3
   refine U J (hp:=aH)<|rt J (hp:=aH)<|bP<|rt J<|a4 (i+1,p/4294967296,1-(4294967296+I g (a+i) 0-p%4294967296-b)/4294967296) ⟨(Y:i+1<=n+2),s2,Uk.symm,(Y:1-(4294967296+I g (a+i) 0-p%4294967296-b)/4294967296=0\/1-(4294967296+I g (a+i) 0-p%4294967296-b)/4294967296=1)⟩ (Y:n+2-(i+1)<n+2-i)<|wk ⟨sR J,sR J,sR J,sR J,sR J,sE J ?_,sR J,sR J,j⟩ ⟨bE J ?_,j⟩
   .refine cj ?_;show d.fdiv (2^(min (af ((63:G):V))<|dx .u64))=1-(4294967296+I g (a+i) 0-p%4294967296-b)/4294967296;rw[BT d 63 Y];omega
   .refine bm (aA.vec 142 ao) ?_;show X.set (a+af (i:V)) (ax .u32 d)=dt g a (cp (i+1) _);rw[s1,ei,zY,(Y:d%4294967296=(4294967296+I g (a+i) 0-p%4294967296-b)%4294967296),D]
  .have cH:i=n+2:=by have h:¬(i:V)<(Z v:V):=bc h;omega
   subst cH;have BO:I v (n+2) 0=0:=by simp[aO,iw (Y:Z v<=n+2)]
   rw[BO,iO,Ee,iN l.1 l.2,Hw l.1 l.2,Ee,om v (n+2+1) Y,hue]at s2;rw[BO,iO,Ee,iN l.1 l.2,om v (n+2+1) Y,hue]at s1;generalize hX:dt g a (cp (n+2)<|val ((az a g).take<|n+2)-k*val (List.take (n+2) v))=X at*;refine bs<|aS<|U J (hp:=aH) ?_;have w3:ax .u64 (ax .u64 (ax .u64 (X.getD (a+(Z v:V).toNat) 0)-B)-b)=(I g (a+(n+2)) 0-B-b)%18446744073709551616:=by rw[a1,C,sT,sT,sT];omega
   generalize hd:(I g (a+(n+2)) 0-B-b)%18446744073709551616=d at*;refine fq (st':=⟨[(0,.c<|.W 0 a<|n+3),(1,e ao v),(5,c<|Z v),(7,cU k),(14,cU d)],[(0,.vec 142 ao X)],44,[]⟩) (wk ⟨sR J,sR J,sR J,sR J,sE J ?_,j⟩ ⟨bR J,j⟩) ?_
   .exact cj w3
   refine U J (hp:=aH)<|bI<|U J (hp:=aH) ?_;have W4:X.set (a+(Z v:V).toNat) (ax .u32 d)=dt g a (cp (n+3)<|u-k*val v):=by rw[a1,show n+3=n+2+1 from J,s1,zY,(Y:d%4294967296=(4294967296+I g (a+(n+2)) 0-B-b)%4294967296),D]
   have zX:d.fdiv (2^(min (af ((63:G):V))<|dx .u64))=1-(4294967296+I g (a+(n+2)) 0-B-b)/4294967296:=by rw[BT d 63 Y];omega
   generalize J5:1-(4294967296+I g (a+(n+2)) 0-B-b)/4294967296=b' at*;have aAj:b'=0\/b'=1:=Y;have BR:=pM u<|val v;have Ke:=jG u (Y:val v≠0);have yd:=jH u hvp;have hpn:=k4<|n+2+1;have h5:=pM (u-k*val v)<|4294967296^(n+2+1);have h6:=jG (u-k*val v) (Y:(4294967296:V)^(n+2+1)≠0);have m:=jH (u-k*val v) hpn;rw[s2]at h5;refine F J (λA=>?_)<|λA=>?_
   .have A:b'=0:=by have A:d.fdiv (2^(min (af ((63:G):V))<|dx .u64))=0:=dw A;rw[<-zX];exact A
    have hq:k=u/val v:=by
     rw[A]at h5;simp only[Int.neg_zero,iO,tV]at h5;by_cases cH:k=u/val v
     .exact cH
     .exfalso;have e2:k=u/val v+1:=Y;have WS:k*val v=val v*(u/val v)+val v:=by rw[e2,pJ,mu,fL]
      omega
    have e1:u-k*val v=u%val v:=by have:=fL (u/val v)<|val v;rw[hq];omega
    refine U J<|bX ?_;repeat(first|refine cY ?_|refine ma ?_|refine m0 ?_)
    refine Ga (st':=⟨[(4,cW<|u/val v)],[(0,.vec 142 ao<|dt g a<|cp (n+3)<|u%val v)],60,[]⟩) (wk ⟨sE J ?_,j⟩ ⟨bE J ?_,j⟩)<|BC cq J (bu.refl _) J
    .refine Gc ?_;rw[oo _ Y Y];exact hq
    .rw[W4,e1]
   .have A:b'=1:=by have A:¬d.fdiv (2^(min (af ((63:G):V))<|dx .u64))=0:=pN A;rw[zX]at A;omega
    have hq:k=u/val v+1:=by
     rw[A]at h5;rw[Int.mul_neg,oV]at h5;by_cases cH:k=u/val v
     .exfalso;have:k*val v=val v*(u/val v):=by rw[cH,fL]
      omega
     .omega
    have WS:k*val v=val v*(u/val v)+val v:=by rw[hq,pJ,mu,fL]
    refine aE ?_;refine fq (st':=⟨[(0,.c<|.W 0 a<|n+3),(1,e ao v),(5,c<|Z v),(7,cU k)],[(0,.vec 142 ao<|dt g a<|cp (n+3)<|u-k*val v)],50,[]⟩) (wk (bK J) ⟨bE J ?_,j⟩) ?_
    .rw[W4]
    have HD:∀x,Z (cp (n+3) x)=n+3:=λx=>vo _ _
    have hU1:cu (dt g a<|cp (n+3)<|u-k*val v):=WH hU<|K3 _ _;have aAk:Z (dt g a<|cp (n+3)<|u-k*val v)=Z g:=zW wU;have arY:dt (dt g a<|cp (n+3)<|u-k*val v) a (cp (n+3)<|val (List.take (n+3)<|az a<|dt g a<|cp (n+3)<|u-k*val v)+val v)=dt g a (cp (n+3)<|u%val v):=by rw[afh wU (by rw[HD,HD]),WI wU,y6 wU,jM wU,K4];refine bm (dt g a)<|P1 _ _ _ ?_;rw[Int.emod_add_emod];congr 1;omega
    generalize dt g a (cp (n+3)<|u-k*val v)=z at*;clear W4 zX J5 s1 s2 D C hX;refine U J<|bI<|U J ?_;refine ay<|bq (α:=G×V) (λx=>⟨[(0,.c<|.W 0 a<|n+3),(1,e ao v),(5,c<|Z v),(7,cU k),(9,cU x.2),(135,c<|Z v),(136,c x.1)],[(0,.vec 142 ao<|dt z a<|cp x.1<|val ((az a z).take x.1)+val (List.take x.1 v))],60,[]⟩) (λx=>x.1<=n+2/\(val ((az a z).take x.1)+val (List.take x.1 v))/4294967296^x.1=x.2/\(x.2=0\/x.2=1)) (λx=>n+2-x.1) (0,0) ⟨bg _,zO,.inl J⟩ (wk (bK J) ⟨bE J ?_,j⟩) ?_
    .exact bm (aA.vec 142 ao) (P3 z a).symm
    rintro⟨i,B⟩ ⟨H,h2,h4⟩;simp only at H h2 h4;have gu:=dI hU1<|a+i;have P:=afc z v a i (c:=B) J h2;simp only at P;let ⟨s1,s2⟩:=P;have Q:Z (cp i<|val ((az a z).take i)+val (List.take i v))=i:=vo _ _;have zC:=zW (U:=z) (j:=a) (ws:=cp i<|val ((az a z).take i)+val (List.take i v)) Y;have C:=P4 (U:=z) (j:=a) (ws:=cp i<|val ((az a z).take i)+val (List.take i v)) Y;have D:=λw=>P5 (U:=z) (j:=a) (ws:=cp i<|val ((az a z).take i)+val (List.take i v)) w Y
    rw[Q]at C D;refine U J<|bI ?_;refine F J (λh=>?_)<|λh=>?_
    .have h:i<n+2:=by have h:(i:V)<(Z v:V):=aV h;omega
     have gv:=dI hv i;generalize hX:dt z a (cp i<|val ((az a z).take i)+val (List.take i v))=X at*;have ei:af (i:V)=i:=cC i;refine aE<|bI<|ay<|U J<|U J (hp:=aH) ?_;have o:ax .u64 (ax .u64 (ax .u64 (X.getD (a+af (i:V)) 0)+ax .u64 (I v (af (i:V)) 0))+B)=I z (a+i) 0+I v i 0+B:=by rw[ei,C,bf (I z (a+i) 0) Y Y,bf (I v i 0) Y Y,bf (_+I v i 0) Y Y,bf _ Y Y]
     generalize ht:I z (a+i) 0+I v i 0+B=s at*;have N:0<=s/\s<8589934592:=Y;refine fq (st':=⟨[(0,.c<|.W 0 a<|n+3),(1,e ao v),(5,c<|Z v),(7,cU k),(15,c i),(16,cU s),(135,c<|Z v),(136,c i)],[(0,.vec 142 ao X)],70,[]⟩) (wk ⟨sR J,sR J,sR J,sR J,sR J,sE J ?_,sR J,sR J,j⟩ ⟨bR J,j⟩) ?_
     .exact cj o
     refine U J (hp:=aH)<|rt J (hp:=aH)<|bP<|rt J<|a4 (i+1,s/4294967296) ⟨(Y:i+1<=n+2),s2,(Y:s/4294967296=0\/s/4294967296=1)⟩ (Y:n+2-(i+1)<n+2-i)<|wk ⟨sR J,sR J,sR J,sR J,sE J ?_,sR J,sR J,j⟩ ⟨bE J ?_,j⟩
     .exact cj<|BT s 32 Y
     .refine bm (aA.vec 142 ao) ?_;show X.set (a+af (i:V)) (ax .u32 s)=dt z a (cp (i+1) _);rw[s1,ei,zY,D]
    .have cH:i=n+2:=by have h:¬(i:V)<(Z v:V):=bc h;omega
     subst cH;rw[BO,tV,om v (n+2+1) Y]at s1;generalize hX:dt z a (cp (n+2)<|val ((az a z).take<|n+2)+val (List.take (n+2) v))=X at*;refine bs<|aS<|U J (hp:=aH)<|U J<|bX ?_;refine Ga (st':=⟨[(4,cW<|u/val v)],[(0,.vec 142 ao<|dt g a<|cp (n+3)<|u%val v)],90,[]⟩) (wk ⟨sE J ?_,j⟩ ⟨bE J ?_,j⟩)<|BC cq J (bu.refl _) J
     .refine Gc ?_;rw[sT,zY];omega
     .refine bm (aA.vec 142 ao) ?_;rw[<-arY,show n+3=n+2+1 from J,s1,a1,C,zY,zY,(Y:(I z (a+(n+2)) 0+B%4294967296)%4294967296=(I z (a+(n+2)) 0+B)%4294967296),D]
 .refine cj ?_;show ax .u64 (t.tdiv<|ax .u64<|I v (af<|(Z v:V)-1) 0)=t/v1;have:=Int.ediv_le_self v1 N;rw[x1,HA N,bf _ W0 Y]
 .refine cj ?_;show(t.tmod<|ax .u64<|I v (af<|(Z v:V)-1) 0)=t%v1;rw[x1,K1 N]
 .rintro⟨f,q,r⟩ ⟨H,h2,L,h4,h5,h6⟩;simp only at H h2 L h4 h5 h6;have hqs:=Kt h2 L;cases f with
  |zero=>omega
  |succ f=>
  rw[tW]at H;have yd:0<=q*v2/\q*v2<18446744073709551616:=by refine⟨kL Y Y,?_⟩;have:q*v2<=4294967297*4294967295:=zT Y Y Y S;omega
  refine bI<|R<|rg 50 J J (λh=>?_)<|λh=>?_
  .have hqB:q>=4294967296:=by simpa using h
   have l:q>=4294967296\/q*v2>r*4294967296+u2:= .inl hqB;refine M J (F J (λ_=>?_)<|λm=>by cases m);have jK:u/val v<q:=by
    rcases l with l|l
    .have:=K.Hz;omega
    .exact K.down h2 Y l
   have o:ax .u64 (q-1)=q-1:=bf _ Y Y;have w2:ax .u64 (r+ax .u64 (I v (af<|(Z v:V)-1) 0))=r+v1:=by rw[x1,bf _ Y Y]
   refine aE<|ay<|U J<|U J (hp:=aH)<|U J<|F J (λm=>?_)<|λm=>?_
   .have m:r+v1>=4294967296:=by have m:ax .u64 (r+ax .u64 (I v (af<|(Z v:V)-1) 0))>=4294967296:=aV m;omega
    rw[g5 l,g5 m]at H;refine oJ<|Jw<|pB<|oK<|eD E<|wk ⟨sR J,sR J,sR J,sE J ?_,j⟩ ⟨bR J,j⟩;refine cj ?_;rw[<-H];exact o
   .have m:¬r+v1>=4294967296:=by have m:¬ax .u64 (r+ax .u64 (I v (af<|(Z v:V)-1) 0))>=4294967296:=bc m;omega
    rw[g5 l,y m]at H;refine di<|fF<|a4 (f,q-1,r+v1) ⟨H,PV,PW,PX,PY,PZ⟩ (dV f)<|wk ⟨sR J,sR J,sR J,sR J,sE J ?_,sE J ?_,j⟩ ⟨bR J,j⟩
    .exact cj o
    .exact cj w2
  .have hqB:¬q>=4294967296:=by have:q<4294967296:=fg;omega
   have w3:ax .u64 (q*ax .u64 (I v (af<|(Z v:V)-2) 0))=q*v2:=by rw[x2,bf _ yd.1 yd.2]
   have w4:ax .u64 ((kf (dx .u64) (ax .u64<|r*2^(min (af ((32:G):V))<|dx .u64))|||kf (dx .u64) (ax .u64<|I g (a+af ((Z v:V)-2)) 0)).toNat:V)=r*4294967296+u2:=by rw[x3,BS r 32 L Y Y,Ec _ _ 32 Y (HI _ _) Y Y Y,show(2:V)^32=4294967296 from J]
   refine M J (hp:=aH)<|F J (λA=>?_)<|λA=>?_
   .have l:q>=4294967296\/q*v2>r*4294967296+u2:= .inr (by have A:ax .u64 (q*ax .u64 (I v (af<|(Z v:V)-2) 0))>ax .u64 ((kf (dx .u64) (ax .u64<|r*2^(min (af ((32:G):V))<|dx .u64))|||kf (dx .u64) (ax .u64<|I g (a+af ((Z v:V)-2)) 0)).toNat:V):=aV A;rw[w3,w4]at A;exact A);have jK:u/val v<q:=by
     rcases l with l|l
     .have:=K.Hz;omega
     .exact K.down h2 Y l
    have o:ax .u64 (q-1)=q-1:=bf _ Y Y;have w2:ax .u64 (r+ax .u64 (I v (af<|(Z v:V)-1) 0))=r+v1:=by rw[x1,bf _ Y Y]
    refine aE<|ay<|U J<|U J (hp:=aH)<|U J<|F J (λm=>?_)<|λm=>?_
    .have m:r+v1>=4294967296:=by have m:ax .u64 (r+ax .u64 (I v (af<|(Z v:V)-1) 0))>=4294967296:=aV m;omega
     rw[g5 l,g5 m]at H;refine oJ<|Jw<|pB<|oK<|eD E<|wk ⟨sR J,sR J,sR J,sE J ?_,j⟩ ⟨bR J,j⟩;refine cj ?_;rw[<-H];exact o
    .have m:¬r+v1>=4294967296:=by have m:¬ax .u64 (r+ax .u64 (I v (af<|(Z v:V)-1) 0))>=4294967296:=bc m;omega
     rw[g5 l,y m]at H;refine di<|fF<|a4 (f,q-1,r+v1) ⟨H,PV,PW,PX,PY,PZ⟩ (dV f)<|wk ⟨sR J,sR J,sR J,sR J,sE J ?_,sE J ?_,j⟩ ⟨bR J,j⟩
     .exact cj o
     .exact cj w2
   .have l:¬(q>=4294967296\/q*v2>r*4294967296+u2):=by have A:¬ax .u64 (q*ax .u64 (I v (af<|(Z v:V)-2) 0))>ax .u64 ((kf (dx .u64) (ax .u64<|r*2^(min (af ((32:G):V))<|dx .u64))|||kf (dx .u64) (ax .u64<|I g (a+af ((Z v:V)-2)) 0)).toNat:V):=bc A;rw[w3,w4]at A;omega
    rw[y l]at H;subst H;exact bs<|eD E aN
def z0 m:w O 188 [e ao (al m)] (e ao<|al m):=by have h:=yg<|al m;rwa[Wh]at h
def arZ{k n}(A:Z (al k)=n+2){x s:G}(ex:(x:V)=I (al k) (n+1) 0)(B:2147483648<=x*2^s)(d:x*2^s<4294967296)(H:s<=31):
  ((k*2^s:G):V)<4294967296^(n+2)/\Z (al<|k*2^s)=n+2/\2147483648<=I (al<|k*2^s) (n+1) 0:=by
 have i:0<2^s:=gG S
 have l:(x+1)*2^s<=4294967296:=by
  have e:4294967296=2^(32-s)*2^s:=by rw[<-jm,(Y:32-s+s=32)]
  have:x<2^(32-s):=by rw[e]at d;exact Nat.lt_of_mul_lt_mul_right d
  rw[e];exact dS _ this
 generalize p:2^s=D at*
 have f:=lP (al k)<|n+1
 rw[om _ _ (Y:Z (al k)<=n+1+1),fv,<-ex]at f
 have t:=oT<|kj (fc k)<|n+1
 rw[(cd:Z (r (n+1)<|al k)=n+1)]at t
 have C:=nF<|kj (fc k)<|n+1
 have K:=k4<|n+1
 generalize val (r (n+1)<|al k)=u at*
 have a:((x:V)+1)*(D:V)<=4294967296:=by have:(((x+1)*D:G):V)<=((4294967296:G):V):=Y;rw[gM,zQ]at this;exact this
 have g:((k*D:G):V)<4294967296^(n+2):=by
  rw[gM,rv,f];have N:(u+(x:V)*4294967296^(n+1))*D<(((x:V)+1)*4294967296^(n+1))*D:=K5 (by rw[pJ,mu];omega) Y;have P:((x:V)+1)*4294967296^(n+1)*D=4294967296^(n+1)*(((x:V)+1)*D):=by generalize (4294967296:V)^(n+1)=y;grind
  have Q:4294967296^(n+1)*(((x:V)+1)*D)<=4294967296^(n+1)*4294967296:=mq a Y;omega
 have v:Z (al<|k*D)=n+2:=by have T:Z (al<|k*D)<=n+2:=DZ g;have W:=vn (m:=k) (k:=k*D)<|qv _ i;omega
 refine⟨g,v,?_⟩
 have b:=lP (al<|k*D)<|n+1
 rw[om _ _ (Y:Z (al<|k*D)<=n+1+1),fv]at b
 have z:=oT<|kj (fc<|k*D)<|n+1
 rw[(cd:Z (r (n+1)<|al<|k*D)=n+1)]at z
 generalize I (al<|k*D) (n+1) 0=c1 at*
 generalize val (r (n+1)<|al<|k*D)=X at*
 by_cases e:2147483648<=c1
 .exact e
 .exfalso;have c:(c1+1)*4294967296^(n+1)<=(x:V)*D*4294967296^(n+1):=ja Y Y;have h:(x:V)*4294967296^(n+1)*D<=(k:V)*D:=ja Y Y;have j:(x:V)*4294967296^(n+1)*D=(x:V)*D*4294967296^(n+1):=by generalize (4294967296:V)^(n+1)=y;grind
  have o:(c1+1)*4294967296^(n+1)=c1*4294967296^(n+1)+4294967296^(n+1):=KZ;rw[gM]at b;omega
def ar0 m k n(d:Z (al k)=n+2)(nW:k<=m)(lm:Z (al m)<=1099511627776):w O 190 [e ao (al m),e ao<|al k] (.t [(ah,[.S ao (al<|m/k)]),(ah,[.S ao (al<|m%k)])]):=by
 refine aK afv ?_;have J1:=dI (fc k)<|n+1;have DM:I (al k) (n+1) 0≠0:=by
  rcases yf k with g|g
  .rw[g]at d;simp at d
  .rw[d]at g;exact g
 obtain⟨x,ex⟩:∃x:G,(x:V)=I (al k) (n+1) 0:=⟨af<|I (al k) (n+1) 0,xS J1.1⟩;let ⟨s,hlz,T,x1,x2⟩:=arE x Y Y;let ⟨f5,f6,f7⟩:=arZ d ex x1 x2 T;have hD:0<2^s:=gG S;have hD2:2^s<=2^31:=dD S T;have H:(2:V)^s=((2^s:G):V):=au;have oL:0<k:=by
  rcases sS k with g|g
  .subst g;rw[Hq]at d;simp at d
  .exact g
 have WM:n+2<=Z (al m):=by rw[<-d];exact vn nW
 obtain⟨a,hM⟩:∃a,Z (al m)=a+(n+2):=⟨Z (al m)-(n+2),Y⟩;have WN:((m*2^s:G):V)<4294967296^(a+(n+2)+1):=by have N:=wN (n:=m);rw[hM]at N;rw[rv,gM];have:=k4<|a+(n+2);have h2:(m:V)*((2^s:G):V)<=(m:V)*4294967296:=mq Y Y;omega
 have W:¬eR (m:V) (k:V)<0:=by unfold eR;rw[y Y];split<;>decide
 have o:=afp (al m) s (fc m) T lm;have q:=(afp (al k) s (fc k) T Y).fs;have q8:=wN (n:=k);rw[d]at q8;rw[fv,d,H,<-gM]at q;rw[fv,H,<-gM,hM]at o;have hVt:r (n+2) (cp (n+2+1) ((k*2^s:G):V))=al (k*2^s):=by have:=ae'<|fc<|k*2^s;rw[f6,fv]at this;rw[HB,List.take_left'<|vo _ _,this]
 refine U J<|R<|rc J J (z0 m)<|rc J J (z0 k)<|M J ?_;refine h<|bQ J J (Qf m k) J<|F J (λp=>aF (aV p) W)<|λ_=>aE ?_;refine h<|U J<|F J (λp=>?_)<|λ_=>aE ?_
 .exfalso;have p:(Z (al k):V)=1:=dw p;omega
 have a2:af ((Z (al k):V)-1)=n+1:=Y;have L:w O 223 [cW (I (al k) (af<|(Z (al k):V)-1) 0)] (c s):=by rw[a2,<-ex];exact hlz
 refine U J<|R<|rc J J L<|M J (hp:=aH) ?_;refine R<|DV J J o<|M J ?_;refine R<|rc J J q<|M J (hp:=by simp only[Pr.an,Pr.h,num,ia,true_and,and_true];rw[vo];omega) ?_;refine R<|rm ao (a+1) J J J J J J (oe .u32) Y ?_ ?_<|M J ?_
 .show _*4<=_;omega
 .show _*1<=_;omega
 generalize K:cp (a+(n+2)+1) ((m*2^s:G):V)=u;have B:val u=((m*2^s:G):V):=by rw[<-K,K4,iN Y WN]
 have D:cu u:=by rw[<-K];exact K3 _ _
 have WQ:Z u=a+(n+2)+1:=by rw[<-K,vo]
 have BO:(0:V)<((k*2^s:G):V):=by have:0<k*2^s:=BP oL hD;omega
 have yc:wT ((m*2^s:G):V) ((k*2^s:G):V) (n+2) a (a+1,u,bx (a+1) 0):=by
  refine⟨aL _,WQ,D,?_,au,tT _,λi hi=>?_,?_⟩
  .show val (az (a+1) u)<_;have N:=BN u (a+1) Y;have h2:=nF<|kj D<|a+1;have hp:=k4<|a+1;by_cases g:val (az (a+1) u)<((k*2^s:G):V)
   .exact g
   .exfalso;have h3:4294967296^(a+1)*((k*2^s:G):V)<=4294967296^(a+1)*val (az (a+1) u):=mq Y Y;have h4:=PC (fc k) (yf k) (by intro g;rw[g]at d;simp at d);rw[fv,d,(Y:n+2-1=n+1)]at h4;have h5:=wN (n:=m);rw[hM,(Y:a+(n+2)=a+1+(n+1)),Int.pow_add]at h5;have h6:4294967296^(a+1)*4294967296^(n+1)*((2^s:G):V)<=4294967296^(a+1)*((k*2^s:G):V):=by rw[gM,ko];exact mq (ja h4 Y) Y
    have h7:(m:V)*((2^s:G):V)<4294967296^(a+1)*4294967296^(n+1)*((2^s:G):V):=K5 h5 Y;rw[B,gM m]at N;omega
  .show I (bx (a+1) (0:V)) i 0=0;rw[aO,nG];split<;>rfl
  .show _=val u+_*val (bx (a+1) 0);rw[PB,B];omega
 refine h<|U J ?_;refine ay<|bq (α:=G×E V×E V) (λx=>⟨[(8,c ((n+2:G):V)),(9,c s),(10,.c<|.X 6002000),(11,e ao<|al<|k*2^s),(12,.c<|.X 8005000),(13,c<|(x.1:V)-1)],[(6002000,.vec 142 ao x.2.1),(8005000,.vec 142 ao x.2.2)],10,[]⟩) (wT ((m*2^s:G):V) ((k*2^s:G):V) (n+2) a) (λx=>x.1) (a+1,u,bx (a+1) 0) yc (wk ⟨sE J ?_,sR J,sR J,sE J ?_,sR J,sE J ?_,j⟩<|n5 J) ?_
 .exact jQ Y
 .refine bm (λz=>AV.c<|C.S ao z) ?_;rw[<-hVt];simp only[d,cC,sr]
 .exact jQ Y
 rintro⟨P,f,Q⟩ v;have lA:Z f=a+(n+2)+1:=v.ul;have A:cu f:=v.ur;have P8:Z Q=a+1:=v.ql;have Og:P<=a+1:=v.k;refine h<|U J ?_;refine F J (λp=>?_)<|λp=>?_
 .have p:(P:V)-1>=0:=aV p;obtain⟨b,rfl⟩:∃b,P=b+1:=⟨P-1,Y⟩;have ej:((b+1:G):V)-1=(b:V):=Y;rw[ej];have l:=v.next BO f5;let ⟨_,zC⟩:=v.WL f5;have hqw:=arO f (al<|k*2^s) b n A (fc _) f6 Y Y f7 (by rw[fv];exact zC);rw[fv]at hqw;rw[show n+2+1=n+3 from J]at l zC;have hu0:=nF<|kj (BH A b)<|n+3;refine aE<|h<|ay ?_;refine cG<|rw_ b (b+(n+3)) J J J J J J Y Y (Y:b+(n+3)<=Z f) ?_;rw[(Y:b+(n+3)-b=n+3)];refine BD 6002000 J hqw J J<|M J ?_;refine bP<|rt J<|a4 (b,dt f b<|cp (n+3)<|val ((az b f).take<|n+3)%((k*2^s:G):V),Q.set b<|val ((az b f).take<|n+3)/((k*2^s:G):V)) l (dV b)<|wk (bK J) ⟨bR J,bE J ?_,j⟩;refine bm (aA.vec 142 ao) ?_;show Q.set (af (b:V)) _=Q.set b _;rw[cC]
 .have p:¬(P:V)-1>=0:=bc p;have hc:P=0:=Y;subst hc;let ⟨e1,e2⟩:=v.fin;have q1:aU Q=al (m/k):=by
   rw[rf v.qr];show al (af<|val Q)=_;rw[e1];have:((m*2^s:G):V)/((k*2^s:G):V)=((m/k:G):V):=by rw[<-zS,Nat.mul_div_mul_right _ _ hD]
   rw[this,cC]
  have hub:val f<((k*2^s:G):V):=v.ub;have hut:val (r (n+2) f)=val f:=by have N:=BN f (n+2) Y;rw[afg A (n+2) Y Y,iO,tV]at N;exact N.symm
  have zX:=arJ (r (n+2) f) s (kj A _) T K7;have q2:al (af<|val (r (n+2) f)/2^s)=al (m%k):=by
   rw[hut,e2,H];have:((m*2^s:G):V)%((k*2^s:G):V)/((2^s:G):V)=((m%k:G):V):=by rw[<-K6,Nat.mul_mod_mul_right,<-zS,WT _ hD]
   rw[this,cC]
  rw[q2]at zX;have ht:=yg Q;rw[q1]at ht;refine bs<|aS<|dv 6002000 J J J<|dv 8005000 J J J ?_;refine R<|rc J J ht<|rc J J zX (hp:=aH)<|M J<|cv J ?_;rfl
def afx m k(i:k≠0)(f:Z (al m)<=1099511627776):w O 190 [e ao (al m),e ao<|al k] (.t [(ah,[.S ao (al<|m/k)]),(ah,[.S ao (al<|m%k)])]):=by
 by_cases a:m<k
 .refine aK afv ?_;refine U J<|R<|rc J J (z0 m)<|rc J J (z0 k)<|M J ?_;refine bI (bQ J J (Qf m k) J<|F J (λ_=>?_)<|λh=>?_)
  .refine bQ J J (PN (al m) f) J<|bX<|cY<|iX cq J ?_;rw[D7 a,rk a];exact bu.t2<|bu.nil ao
  .exfalso;have h:¬eR (m:V) (k:V)<0:=bc h;unfold eR at h;rw[q Y]at h;omega
 .by_cases b:k<4294967296
  .refine aK afv ?_;have v:al k=[(k:V)]:=by rw[zL i,D7 b,Hq,rk b]
   have d:¬eR (m:V) (k:V)<0:=by unfold eR;rw[y Y];split<;>decide
   have l:=arF (al m) (k:V) (fc m) Y Y f;rw[fv,<-zS,<-K6,cC]at l;have p:=Qf m k;have s:=z0 k;rw[v]at p s⊢;refine U J<|R<|rc J J (z0 m)<|rc J J s<|M J ?_;refine bI<|bQ J J p J<|F J (λh=>aF (aV h) d)<|λ_=>aE ?_;have g:w O 222 [e ao (al m),.c (num .u64 (k:V)).1] (.t [(ah,[.S ao (al<|m/k)]),(ah,[.I .u64 ((m%k:G):V)])]):=by rw[show(AV.c (num .u64 (k:V)).1)=cU (k:V)from cj<|bf _ Y Y];exact l
   have u:=gU m<|rq i;refine bI<|U J<|F J (λ_=>?_)<|λh=>gL;refine bQ J J g J ?_;refine bQ J J (PL (m%k) Y) J<|bX<|cY<|atR J
  .have A:2<=Z (al k):=by
    by_cases x:2<=Z (al k)
    .exact x
    .exfalso;have B:=wN (n:=k);have z:=wO (m:=Z<|al k) (n:=1) Y;rw[Int.pow_one]at z;omega
   exact ar0 m k (Z (al k)-2) Y Y f
def afy a b(p:b≠0)(n:Sm a)(k:Sm b):w O 158 [aZ a,aZ b] (.t [(ae,av .z<|a/b),(ae,av .z<|a%b),(ah,[.I .i64 0])]):=by
 refine aK Tryz.func158 ?_;have d:aC b≠0:=Y;refine U J<|h<|bQ J J (z0<|aC b) J<|F J (λl=>?_)<|λl=>?_
 .exfalso;have l:(Z (al<|aC b):V)=0:=dw l;have:=rj.2 d;omega
 .refine aE<|bQ J J (afx _ _ d n) J<|h<|R<|rg 26 J J (λh3=>?_) (λh3=>?_)
  .have h3:a<0:=by simpa[cD]using h3
   refine M J<|F J (λh4=>?_)<|λh4=>?_
   .have h4:aC a%aC b≠0:=by have h4:(Z (al<|aC a%aC b):V)>0:=P9;exact rj.1 Y
    let ⟨e1,f⟩:=aeX (rq d) h3 h4;have hz:cD a=ae:=HG;let ⟨g,i⟩:=Hx a b (aC a/aC b+1) (aC b-aC a%aC b) HH f;have s:aC a%aC b<aC b:=gU _<|rq d;refine R<|rl ao [_] J J (rc J J (ae2 (aC a/aC b) 1 ?_ S)<|M J<|cG<|rc J J (WZ (aC b) _ Y k)<|M J<|aS<|R ?_)
    .exact br (vn<|Nat.div_le_self _ _) n
    refine rc J J (ru _ _)<|rc J J (ru _ _)<|M J<|cv J ?_;rw[g,i];rfl
   .have h4:aC a%aC b=0:=by have h4:¬(Z (al<|aC a%aC b):V)>0:=P9;exact Decidable.byContradiction λm=>by have:=rj.2 m;omega
    let ⟨e1,f⟩:=aeW (rq d) h3 h4;have hz:cD a=ae:=HG;let ⟨g,i⟩:=Hx a b (aC a/aC b) (aC a%aC b) HH (by rw[f,h4];rfl);refine aE<|R<|rc J J (ru _ _)<|rc J J (ru _ _)<|M J<|cv J ?_;rw[g,i];rfl
  .have h3:¬a<0:=by simpa[cD]using h3
   refine M J<|F J (λh4=>by simp at h4)<|λh4=>?_;let ⟨e1,f⟩:=aeV (rq d) h3;have hz:cD a=ah:=HG;let ⟨g,i⟩:=Hx a b (aC a/aC b) (aC a%aC b) HH f;refine aE<|R<|rc J J (ru _ _)<|rc J J (ru _ _)<|M J<|cv J ?_;rw[g,i];rfl
def afz m(n:m<18446744073709551616):w O 189 [e ao (al m)] (cU m):=by
 refine aK Tryz.func189 ?_;have s:=KX n;refine U J<|U J<|h<|U J ?_;refine ay<|bq (α:=G) (λi=>⟨[(0,e ao<|al m),(3,cU<|val<|r i<|al m),(6,c<|Z<|al m),(7,c i)],[],4,[]⟩) (λi=>i<=Z (al m)) (λi=>Z (al m)-i) 0 (bg _) aN ?_;intro i t;have g:=dI (fc m) i;have d:=lP (al m) i;have l:=oT<|kj (fc m) i;have p:=nF<|kj (fc m) i;refine U J<|h ?_;refine F J (λa=>?_)<|λa=>?_
 .have a:i<Z (al m):=by have a:(i:V)<(Z (al m):V):=aV a;omega
  have f:Z (r i<|al m)=i:=cd;rw[f]at l;refine aE<|h<|ay<|U J<|rt J (hp:=aH)<|bP<|rt J<|a4 (i+1) a (Y:Z (al m)-(i+1)<Z (al m)-i)<|wk ⟨sR J,sE J ?_,sR J,sR J,j⟩ j;refine cj ?_;have b:i=0\/i=1:=Y;rcases b with k|k
  .subst k;show ax .u64 ((kf (dx .u64) (val<|r 0<|al m)|||kf (dx .u64) (ax .u64<|ax .u64 (I (al m) 0 0)*2^(min (af<|((0:G):V))<|dx .u64))).toNat:V)=val (r (0+1)<|al m);rw[d,bf (I (al m) 0 0) Y Y,BS _ 0 g.1 Y Y];have:=Ec (I (al m) 0 0*2^0) 0 0 Y (by simp[Int.emod_one]) S S Y;rw[HJ];simp only[val];rw[BitVec.or_comm,this];simp
  .subst k;show ax .u64 ((kf (dx .u64) (val<|r 1<|al m)|||kf (dx .u64) (ax .u64<|ax .u64 (I (al m) 1 0)*2^(min (af<|((32:G):V))<|dx .u64))).toNat:V)=val (r (1+1)<|al m);rw[Int.pow_one]at l d;rw[d,bf (I (al m) 1 0) Y Y,BS _ 32 g.1 Y Y];have:=Ec (I (al m) 1 0*2^32) (val<|r 1<|al m) 32 Y (HI _ _) p Y Y;rw[BitVec.or_comm,this,show(2:V)^32=4294967296 from J];omega
 .have a:i=Z (al m):=by have a:¬(i:V)<(Z (al m):V):=bc a;omega
  subst a;refine bs<|aS<|U J<|cv J<|cj ?_;rw[iG,fv]
def tX:G->G->G->G->G->G
 |0,b,_,_,_=>b
 |f+1,b,a,n,p=>if n=0 then b else tX f (if n%2=1 then b*a%p else b) (a*a%p) (n/2) p
def wX(a n p:G):G:=tX 64 (1%p) (a%p) n p
def jR(a p:G):G:=wX a (p-2) p
def afA:∀(f b a n p:G),0<p->b<p->tX f b a n p<p
 |0,b,_,_,_,_,d=>d
 |f+1,b,a,n,p,hp,d=>by
  unfold tX;split
  .exact d
  .refine afA f _ _ _ _ hp ?_;split
   .exact gU _ hp
   .exact d
def W5 a n p(b:0<p):wX a n p<p:=afA _ _ _ _ _ b<|gU _ b
def oq(x a:G):(x:V).tmod (a:V)=((x%a:G):V):=by rw[k5 Y];omega
def HK(x a p:G)(d:x<p)(f:a<p)(b:p<=4294967296):(ax .u64<|(x:V)*(a:V)).tmod (p:V)=((x*a%p:G):V):=by have h:x*a<18446744073709551616:=gK (Qg d f)<|br (mA b b) S;rw[<-gM,bf _ Y Y,oq]
def Ef(x:G)(a:x<18446744073709551616):(ax .u64<|(x:V).tdiv 2)=((x/2:G):V):=by
 have e:(x:V).tdiv 2=((x/2:G):V):=by rw[wP Y];omega
 rw[e,bf _ Y Y]
def afB(a n p:G)(B:a<18446744073709551616)(z:n<18446744073709551616)(d:0<p)(u:p<=4294967296):w O 301 [cU a,cU n,cU p] (cU<|wX a n p):=by
 refine aK Tryz.func301 ?_;refine U J<|bI<|U J ?_;refine F J (λh=>?_)<|λh=>?_
 .exfalso;have h:(p:V)=0:=fg;omega
 .have A:(p:V)≠0:=by omega
  refine aE<|U J<|bI<|U J<|ay<|bq (α:=G×G×G×G) (λx=>⟨[(0,cU x.2.2.1),(1,cU x.2.2.2),(2,cU p),(7,cU x.2.1)],[],4,[]⟩) (λx=>tX x.1 x.2.1 x.2.2.1 x.2.2.2 p=wX a n p/\x.2.2.2<2^x.1/\x.2.1<p/\x.2.2.1<p/\x.2.2.2<18446744073709551616) (λx=>x.2.2.2) (64,1%p,a%p,n) ⟨J,z,gU _ d,gU _ d,z⟩ (wk ⟨sE J ?_,sR J,sR J,sE J ?_,j⟩ j) ?_
  .exact cj<|oq a p
  .exact cj<|oq 1 p
  .rintro⟨f,r,b,m⟩ ⟨i,hm,hr,l,k⟩;simp only at i hm hr l k;refine bI<|U J ?_;refine F J (λs=>?_) (λs=>?_)
   .have s:(m:V)>0:=by simpa using s
    cases f with
    |zero=>rw[qx]at hm;omega
    |succ f=>
     have t:m/2<2^f:=by rw[fG]at hm;omega
     rw[tX,y Y]at i
     refine aE<|bI<|ay<|bI<|U J ?_
     refine F J (λg=>?_)<|λg=>?_
     .have g:m%2=1:=by have g:=dw g;have e:(m:V).tmod 2=((m%2:G):V):=oq m 2;have v:(m:V).tmod 2=1:=g;omega
      rw[q g]at i;refine rt J<|aS<|rt J<|bP<|rt J<|a4 (f,r*b%p,b*b%p,m/2) ⟨i,t,gU _ d,gU _ d,Qh⟩ Qi<|wk ⟨sE J ?_,sE J ?_,sR J,sE J ?_,j⟩ j
      .exact cj<|HK b b p l l u
      .exact cj<|Ef m k
      .exact cj<|HK r b p hr l u
     .have g:¬m%2=1:=by intro e;have C:(m:V).tmod 2=((m%2:G):V):=oq m 2;have v:((m:V).tmod 2==1)=ah:=g;rw[(Y:(m:V).tmod 2=1)]at v;cases v
      rw[y g]at i;refine aE<|rt J<|bP<|rt J<|a4 (f,r,b*b%p,m/2) ⟨i,t,hr,gU _ d,Qh⟩ Qi<|wk ⟨sE J ?_,sE J ?_,sR J,sR J,j⟩ j
      .exact cj<|HK b b p l l u
      .exact cj<|Ef m k
   .have s:¬(m:V)>0:=by simpa using s
    have:m=0:=Y;subst this;refine bs<|aS<|U J<|cv J ?_;rw[<-i];cases f with
    |zero=>rfl
    |succ f=>rw[tX,q J]
def ar4(a p:G)(b:a<18446744073709551616)(i:a%p≠0)(d:2<=p)(f:p<=4294967296):w O 291 [cU a,cU p] (.t [(ah,[.I .u64 (jR a p)]),(ah,[.I .i64 0])]):=by
 refine aK Tryz.func291 ?_;have g:(p:V)≠0:=Y;refine U J<|bI<|R<|rg 8 J J (λh=>?_)<|λh=>?_
 .exfalso;have h:(p:V)<2:=fg;omega
 .refine M J (F J (λh2=>?_)<|λh2=>?_)
  .exfalso;have h2:(a:V).tmod (p:V)=0:=sk;rw[oq]at h2;omega
  .have e:w O 301 [cU a,.c (num .u64<|(p:V)-2).1,cU p] (cU<|wX a (p-2) p):=by rw[show(AV.c (num .u64<|(p:V)-2).1)=cU ((p-2:G):V)from cj<|(bf _ Y Y).trans Y];exact afB a (p-2) p b Y Y f
   exact aE<|bQ J J e J<|cN J
def aP(xs:E V)(p:V):AV:= .a [.S ar xs,.I .u64 p]
def afC{a}{k}(b:ij a k=ij a (Z a))(d:k=0\/I a (k-1) 0≠0):r k a=aU a:=by
 unfold aU;rw[<-b];cases k with
 |zero=>rfl
 |succ k=>
  rcases d with d|d
  .omega
  .simp[eL]at d;simp[ij,d,b8]
def afD ws p(i:Z ws<=1000000):w O 263 [aP ws p] (aP (aU ws) p):=by
 refine aK Tryz.func263 ?_;refine U J<|U J ?_;refine h<|ay<|bq (α:=G) (λk=>⟨[(1,.c<|.P 0 0),(2,.c<|.P 1000 0),(3,c k)],[(0,.box 221 0 [.S ar ws,.I .u64 p]),(1000,.box 221 0 [.V (.slice none 0 0),.I .u64 0])],2,[]⟩) (λk=>k<=Z ws/\ij ws k=ij ws (Z ws)) (λk=>k) (Z ws) ⟨aL _,J⟩ (wk (bK J) ⟨bE J J,bE J J,j⟩) ?_;rintro k ⟨l,a⟩;refine h<|R ?_;refine rg 9 J J (λf=>?_)<|λf=>?_
 .simp at f;refine M J (F J (λb=>?_)<|λb=>?_)
  .refine aE (ay<|rt J<|fF<|a4 (k-1) ⟨Y,?_⟩ (Y:k-1<k)<|wk ⟨sR J,sR J,sE J ?_,j⟩ ⟨bE J J,bE J J,j⟩)
   .rw[<-a];obtain⟨d,rfl⟩:∃d,k=d+1:=⟨k-1,Y⟩;have g:I ws d 0=0:=by have:af (((d+1:G):V)-1)=d:=Y;simpa[this]using b
    simp only[eL,ij,g,cz]
   .congr 2;omega
  .refine bs<|aS<|U J<|cv J ?_;refine bm (aP · p) ?_;rw[<-afC a (.inr ?_)]
   .simp
   .have:af ((k:V)-1)=k-1:=by omega
    simpa[this]using b
 .simp at f;subst f;refine M J<|F J (λb=>by simp at b)<|λ_=>?_;refine bs<|aS<|U J<|cv J ?_;exact bm (aP · p)<|afC a<|.inl J
def rp(p:V)(a:E V):Prop:=∀i,0<=I a i 0/\I a i 0<p
def Qj{p}{a}(b:rp p a) i{x}(d:0<=x)(f:x<p):rp p (a.set i x):=by
 intro j;have:=b j;simp only[aO,Wj]at this⊢;split
 .split
  .exact⟨d,f⟩
  .rename_i g k;simp only[Option.getD_none];exact⟨iZ _,Y⟩
 .exact this
def W6{p}(a:0<p) n:rp p (bx n 0):=by
 intro j;simp[aO,nG];split
 .exact⟨iZ _,a⟩
 .exact⟨iZ _,a⟩
def tY(a b:E V)(p:V)(i:G):G->E V->E V
 |0,f=>f
 |d+1,f=>(tY a b p i d f).set (i+d)<|(I (tY a b p i d f) (i+d) 0+I a i 0*I b d 0)%p
def ot(a b:E V)(p:V):G->E V
 |0=>bx (Z a+Z b-1) 0
 |i+1=>tY a b p i (Z b)<|ot a b p i
def K8(a b:E V)(p:V)(i:G)(d:E V):∀f,Z (tY a b p i f d)=Z d
 |0=>rfl
 |f+1=>by rw[tY,px,K8 a b p i d f]
def K9(a b:E V)(p:V):∀i,Z (ot a b p i)=Z a+Z b-1
 |0=>by simp[ot]
 |i+1=>by rw[ot,K8,K9 a b p i]
def Qk{a b:E V}{p:V}(f:0<p)(i:G){g:E V}(k:rp p g):∀d,rp p (tY a b p i d g)
 |0=>k
 |d+1=>Qj (Qk f i k d) _ (jG _ Y)<|jH _ f
def La(a b:E V){p:V}(d:0<p):∀i,rp p (ot a b p i)
 |0=>W6 d _
 |i+1=>Qk d i (La a b d i) _
def db(a b:E V)(p:V):E V:=if a=[]\/b=[]then[]else aU (ot a b p<|Z a)
def afE x a z p(g:0<=x/\x<p)(d:0<=a/\a<p)(b:0<=z/\z<p)(i:p<=2147483648):(ax .u64<|x+ax .u64 (a*z)).tmod p=(x+a*z)%p:=by have f:0<=a*z:=kL d.1 b.1;have k:a*z<=2147483648*2147483648:=zT Y Y b.1 Y;rw[bf (a*z) f Y,bf _ Y Y,k5 Y]
def bu.trans{x a z}(b:bu x a)(k:bu a z):bu x z:=⟨λg v e=>k.1 g v<|b.1 g v e,λd e=>b.2 d<|k.2 d e⟩
def bu.a2{x i k}(d:bu (.c x) (.c i)):bu (.a [x,k]) (.a [i,k]):=by
 refine⟨?_,?_⟩
 .rintro g v ⟨vs,rfl,v1,r,rfl,l,f⟩;exact⟨_,J,v1,r,J,d.1 g v1 l,f⟩
 .intro m b;have f:=d.2 m;simp[AV.ak,b6]at b f⊢;exact b.elim (λd=> .inl<|f d) .inr
def ar5 a b p(B:Z a<=1000)(D:Z b<=1000)(l:0<p)(s:p<=2147483648)(t:rp p a)(u:rp p b):w O 292 [aP a p,aP b p] (aP (db a b p) p):=by
 refine aK Tryz.func292 ?_;refine U J<|h<|R ?_;have m:a=[]\/b=[]->aP [] p=aP (db a b p) p:=λf=>by rw[db,q f]
 refine rg 12 J J (λf=>?_)<|λf=>?_
 .have f:a=[]:=by simpa using f
  refine M J (F J (λd=>?_)<|λd=>by simp at d);exact U J<|bX<|cY<|iX cq J<|bu.trans (bu.a2<|bu.nil ar)<|bu.of_eq<|m<|.inl f
 .have f:a≠[]:=by simpa using f
  refine M J<|F J (λd=>?_)<|λd=>?_
  .have d:b=[]:=by simpa using d
   exact U J<|bX<|cY<|iX cq J<|bu.trans (bu.a2<|bu.nil ar)<|bu.of_eq<|m<|.inr d
  .have d:b≠[]:=by simpa using d
   have C:=cF.2 f;have H:=cF.2 d;refine aE<|R ?_;refine rm ar (Z a+Z b-1) J J J J J J (oe .u64) Y ?_ ?_ ?_
   .show _*8<=_;omega
   .show _*1<=_;omega
   refine M J<|h<|U J ?_;refine ay<|bq (α:=G) (λi=>⟨[(2,.c<|.P 0 0),(3,.c<|.P 1000 0),(4,.c<|.P 2000 0),(5,.c<|.X 2008000),(32,c<|Z a),(33,c i)],[(0,.box 221 0 [.S ar a,.I .u64 p]),(1000,.box 221 0 [.S ar b,.I .u64 p]),(2000,.box 221 0 [.V (.slice none 0 0),.I .u64 0]),(2008000,.vec 150 ar<|ot a b p i)],4,[]⟩) (λi=>i<=Z a) (λi=>Z a-i) 0 (bg _) (wk (bK J) ⟨bE J J,bE J J,bE J J,bE J J,fp⟩) ?_;intro i K;have v:=K9 a b p i;refine U J<|h ?_;refine F J (λg=>?_)<|λg=>?_
   .have g:i<Z a:=by simpa using g
    refine aE<|h<|ay<|U J<|U J ?_;refine ay<|bq (α:=G) (λj=>⟨[(2,.c<|.P 0 0),(3,.c<|.P 1000 0),(4,.c<|.P 2000 0),(5,.c<|.X 2008000),(6,c i),(32,c<|Z a),(33,c i),(38,c<|Z b),(39,c j)],[(0,.box 221 0 [.S ar a,.I .u64 p]),(1000,.box 221 0 [.S ar b,.I .u64 p]),(2000,.box 221 0 [.V (.slice none 0 0),.I .u64 0]),(2008000,.vec 150 ar<|tY a b p i j<|ot a b p i)],7,[]⟩) (λj=>j<=Z b) (λj=>Z b-j) 0 (bg _) (wk (bK J) ⟨bE J J,bE J J,bE J J,bE J J,fp⟩) ?_;intro j N;have x:=K8 a b p i (ot a b p i) j;refine U J<|h ?_;refine F J (λk=>?_)<|λk=>?_
    .have k:j<Z b:=by simpa using k
     have z:=t i;have A:=u j;have gr:=Qk l (a:=a) (b:=b) i (La a b l i) j<|i+j;have n:af ((i:V)+(j:V))=i+j:=Y;refine aE<|h<|ay<|U J<|rt J ?_ (hp:=lQ);refine bP<|rt J<|a4 (j+1) k W7<|wk (bK J) ⟨bE J J,bE J J,bE J J,bE J ?_,fp⟩;rw[tY,n,<-afE _ _ _ p gr z A s];rfl
    .have k:¬j<Z b:=by simpa using k
     have e:j=Z b:=Y;subst e;refine bs<|bP<|rt J<|a4 (i+1) g ri<|wk (bK J) ⟨bE J J,bE J J,bE J J,bE J J,fp⟩
   .have g:¬i<Z a:=by simpa using g
    have e:i=Z a:=Y;subst e;refine bs<|aS<|dv 2008000 J J J<|bQ J J (afD (ot a b p<|Z a) p Y) J<|cv J ?_;rw[db,y<|λe=>e.elim f d];rfl
def ar6(x:V)(a:E V)(d:Z a<=1000000):qq O 290 [e ar (x::a)] 150 ar (x::a):=by
 refine KH Tryz.func290 J J J J S<|U J<|h<|R<|rx J J j<|M J<|F J (λb=>by simp at b)<|λb=>(aE<|R<|gV ar [] J J (ra J J J J J J J J J ?_ ?_<|M J<|bX<|KG (id:=2002000) cq J J))
 .show(_+(_+1)+(_+(_+1))/4+192)*8<=_;simp[qT];omega
 .show(_+(_+1))*1<=_;simp[qT];omega
def ar7 ws p(a:Z ws<=1000000):w O 232 [aP ws p] (c<|(Z ws:V)-1):=by refine aK Tryz.func232 ?_;exact U J<|U J<|cN J
def wY(b:E V)(p f:V)(i:G):G->E V->E V
 |0,d=>d
 |a+1,d=>(wY b p f i a d).set (i+a)<|(I (wY b p f i a d) (i+a) 0+(p-f)*I b a 0)%p
def jb(a b:E V)(p v:V)(m n:G):G->E V×E V
 |0=>(bx m 0,a)
 |k+1=>((jb a b p v m n k).1.set (m-(k+1))<|(jb a b p v m n k).2.getD (m-(k+1)+n) 0*v%p,wY b p ((jb a b p v m n k).2.getD (m-(k+1)+n) 0*v%p) (m-(k+1)) (Z b) (jb a b p v m n k).2)
def Ql(b:E V)(p f:V)(i:G)(a:E V):∀d,Z (wY b p f i d a)=Z a
 |0=>rfl
 |d+1=>by rw[wY,px,Ql b p f i a d]
def W8{b:E V}{p c:V}(d:0<p)(i:G){f:E V}(g:rp p f):∀a,rp p (wY b p c i a f)
 |0=>g
 |a+1=>Qj (W8 d i g a) _ (jG _ Y)<|jH _ d
def Qm(a b:E V)(p v:V)(m n:G):∀k,(jb a b p v m n k).1.length=m/\(jb a b p v m n k).2.length=Z a
 |0=>by simp[jb]
 |k+1=>by have:=Qm a b p v m n k;simp[jb,px,Ql];exact this
def W9{a:E V}(b:E V){p:V}(v:V)(m n:G)(d:0<p)(f:rp p a):∀k,rp p (jb a b p v m n k).1/\rp p (jb a b p v m n k).2
 |0=>⟨W6 d _,f⟩
 |k+1=>by have g:=W9 b v m n d f k;exact⟨Qj g.1 _ (jG _ Y)<|jH _ d,W8 d _ g.2 _⟩
def aW(a b:E V)(p:V):E V×E V:=
 if Z a<=Z b-1 then([],a)
 else(λx=>(x.1,aU<|r (Z b-1) x.2)) (jb a b p (jR (af<|I b (Z b-1) 0) (af p):G) (Z a-(Z b-1)) (Z b-1)<|Z a-(Z b-1))
def ar8 x a z p(g:0<=x/\x<p)(d:0<=a/\a<=p)(b:0<=z/\z<p)(i:p<=2147483648):(ax .u64<|x+ax .u64 (a*z)).tmod p=(x+a*z)%p:=by have f:0<=a*z:=kL d.1 b.1;have k:a*z<=2147483648*2147483648:=zT Y Y b.1 Y;rw[bf (a*z) f Y,bf _ Y Y,k5 Y]
def afF a z p(d:0<=a/\a<p)(b:0<=z/\z<p)(g:p<=2147483648):(ax .u64<|a*z).tmod p=a*z%p:=by have f:0<=a*z:=kL d.1 b.1;have i:a*z<=2147483648*2147483648:=zT Y Y b.1 Y;rw[bf (a*z) f Y,k5 Y]
def afG a p(b:0<=a/\a<p)(f:a≠0)(d:2<=p)(g:p<=2147483648):w O 291 [cU a,cU p] (.t [(ah,[.I .u64 (jR (af a) (af p):G)]),(ah,[.I .i64 0])]):=by have h:=ar4 (af a) (af p) Y (by rw[rk Y];omega) Y Y;rwa[xS b.1,xS (by omega:0<=p)]at h
def bu.ta{x d f}{i}(k:bu (.c x) (.c d)):bu (.t<|(ae,[x,f])::i) (.t<|(ae,[d,f])::i):=by
 refine⟨?_,?_⟩
 .rintro g v ⟨vs,rfl,v1,r1,rfl,⟨us,rfl,v2,l,rfl,m,b⟩,n⟩;exact⟨_,J,_,_,J,⟨_,J,v2,l,J,k.1 g v2 m,b⟩,n⟩
 .intro p a;have b:=k.2 p;simp only[AV.ak,et,b6,ji,bl]at a b⊢;rcases a with(a|a)|a
  .exact .inl<|.inl<|b a
  .exact .inl<|.inr a
  .exact .inr a
def ar9 x a' b p{a}(ea:a=x::a')(la:Z a<=1000)(lb:Z b<=1000)(B:2<=p)(D:p<=2147483648)(ha:rp p a)(hb:rp p b)(H:b≠[])(s:I b (Z b-1) 0≠0):w O 264 [aP a p,aP b p] (.t [(ae,[.S ar (aW a b p).1,.I .u64 p]),(ae,[.S ar (aW a b p).2,.I .u64 p])]):=by
 refine aK Tryz.func264 ?_;have E:p≠0:=Y;have pb:=cF.2 H;have C:qq O 290 [e ar a] 150 ar a:=by rw[ea]at la⊢;exact ar6 x a' (by simp at la;omega)
 refine U J<|R<|DV J J C<|M J<|bQ J J (ar7 b p Y) J<|bI<|U J ?_;refine F J (λh=>?_)<|λh=>?_
 .have h:Z a<=Z b-1:=by have h:(Z a:V)<=(Z b:V)-1:=fg;omega
  have g:aW a b p=([],a):=by rw[aW,q h]
  rw[g];refine U J<|bX<|cY<|iX cq J ?_;exact bu.ta<|bu.nil ar
 .have h:¬Z a<=Z b-1:=by have h:¬(Z a:V)<=(Z b:V)-1:=fg;omega
  obtain⟨n,r⟩:∃n,Z b=n+1:=⟨Z b-1,Y⟩;obtain⟨m,L⟩:∃m,Z a=n+m:=⟨Z a-n,Y⟩;have g:aW a b p=((jb a b p (jR (af<|I b n 0) (af p):G) m n m).1,aU<|(jb a b p (jR (af<|I b n 0) (af p):G) m n m).2.take n):=by rw[aW,y h,r,L,eL,Lb]
  rw[g];rw[r,eL]at s;have en:(Z b:V)-1=(n:V):=Y;generalize hv:(jR (af<|I b n 0) (af p):G)=v;have K:(0:V)<=(v:V)/\(v:V)<p:=by have:=W5 (af<|I b n 0) (af p-2) (af p) Y;unfold jR at hv;omega
  rw[en];have f:=afG (I b n 0) p (hb n) s B D;rw[hv]at f;refine aE<|bQ J J f J<|R ?_;refine rm ar m J J J J J J (oe .u64) Y ?_ ?_ ?_
  .show _*8<=_;omega
  .show _*1<=_;omega
  refine M J<|bI<|U J ?_;refine ay<|bq (α:=G) (λk=>⟨[(2,.c<|.P 0 0),(3,.c<|.P 1000 0),(4,.c<|.P 2000 0),(5,.c<|.P 3000 0),(6,.c<|.X 1002000),(7,c n),(8,cU v),(10,.c<|.X 5004000),(11,c<|(m:V)-1-k)],[(0,.box 221 0 [.S ar a,.I .u64 p]),(1000,.box 221 0 [.S ar b,.I .u64 p]),(2000,.box 221 0 [.V (.slice none 0 0),.I .u64 0]),(3000,.box 221 0 [.V (.slice none 0 0),.I .u64 0]),(1002000,.vec 150 ar (jb a b p v m n k).2),(5004000,.vec 150 ar (jb a b p v m n k).1)],7,[]⟩) (λk=>k<=m) (λk=>m-k) 0 (bg _) (wk ⟨sR J,sR J,sR J,sR J,sR J,sR J,sR J,sR J,sE J ?_,fp⟩ ⟨bE J J,bE J J,bE J J,bE J J,bE J J,bE J J,fp⟩) ?_
  .exact bm c (by simp only[ig];omega)
  intro k hk;have N:=Qm a b p v m n k;have u:=W9 b v m n Y ha k;refine bI<|U J ?_;refine F J (λh3=>?_)<|λh3=>?_
  .have h3:k<m:=by have h3:(m:V)-1-k>=0:=CY;omega
   obtain⟨i,hi⟩:∃i,m=i+(k+1):=⟨m-(k+1),Y⟩;have ei:(m:V)-1-k=(i:V):=Y;have z:m-(k+1)=i:=Y;rw[ei];have Q:af ((i:V)+(n:V))=i+n:=Y;generalize hc:(jb a b p v m n k).2.getD (i+n) 0*v%p=d;have wg:0<=d/\d<p:=by rw[<-hc];exact⟨jG _ Y,jH _ Y⟩
   have T:=u.2<|i+n;refine aE<|bI<|ay<|U J (hp:=lQ)<|U J ?_;refine ay<|bq (α:=G) (λj=>⟨[(2,.c<|.P 0 0),(3,.c<|.P 1000 0),(4,.c<|.P 2000 0),(5,.c<|.P 3000 0),(6,.c<|.X 1002000),(7,c n),(8,cU v),(10,.c<|.X 5004000),(11,c i),(65,c<|Z b),(66,c j)],[(0,.box 221 0 [.S ar a,.I .u64 p]),(1000,.box 221 0 [.S ar b,.I .u64 p]),(2000,.box 221 0 [.V (.slice none 0 0),.I .u64 0]),(3000,.box 221 0 [.V (.slice none 0 0),.I .u64 0]),(1002000,.vec 150 ar<|wY b p d i j (jb a b p v m n k).2),(5004000,.vec 150 ar<|(jb a b p v m n k).1.set i d)],10,[]⟩) (λj=>j<=Z b) (λj=>Z b-j) 0 (bg _) (wk (bK J) ⟨bE J J,bE J J,bE J J,bE J J,bE J J,bE J ?_,fp⟩) ?_
   .rw[<-hc,<-afF _ _ p T K D,<-Q];rfl
   intro j hj;have hlj:=Ql b p d i (jb a b p v m n k).2 j;have W:=W8 (b:=b) (p:=p) (c:=d) Y i u.2 j<|i+j;refine U J<|bI ?_;refine F J (λl=>?_)<|λl=>?_
   .have l:j<Z b:=by simpa using l
    have gb:=hb j;have o:af ((i:V)+(j:V))=i+j:=Y;have A:I ((jb a b p v m n k).1.set i d) i 0=d:=by rw[aO,List.getElem?_set_self Y];rfl
    have Qn:Z ((jb a b p v m n k).1.set i d)=m:=by rw[px];exact N.1
    refine aE<|bI<|ay<|U J<|rt J ?_ (hp:=lQ);refine bP<|rt J<|a4 (j+1) l W7<|wk (bK J) ⟨bE J J,bE J J,bE J J,bE J J,bE J ?_,bE J J,fp⟩;rw[wY,o,<-ar8 _ (p-d) _ p W Y gb D];have e2:ax .u64 (p-I ((jb a b p v m n k).1.set i d) (af (i:V)) 0)=p-d:=by rw[cC,A,bf _ Y Y]
    rw[<-e2];rfl
   .have l:¬j<Z b:=by simpa using l
    have g:j=Z b:=Y;subst g;refine bs<|bP<|rt J<|a4 (k+1) h3 (Y:m-(k+1)<m-k)<|wk ⟨sR J,sR J,sR J,sR J,sR J,sR J,sR J,sR J,sE J ?_,fp⟩ ⟨bE J J,bE J J,bE J J,bE J J,bE J ?_,bE J ?_,fp⟩
    .exact bm c Y
    .rw[jb,z,hc]
    .rw[jb,z,hc]
  .have h3:¬k<m:=by have h3:¬(m:V)-1-k>=0:=CY;omega
   have g:k=m:=Y;subst g;refine bs<|aS<|dv 1002000 J J J<|dv 5004000 J J J<|bQ J J (afD ((jb a b p v k n k).2.take n) p K7) J<|cN J
def sm(f:G->V):G->V
 |0=>0
 |k+1=>sm f k+f k
def Qo(A B:G->V)(n:G):∀k,lR A B n k=sm (λi=>A i*B (n-i)) k
 |0=>rfl
 |k+1=>by rw[lR,sm,Qo A B n k]
def iz{f g:G->V}:∀{k:G},(∀i,i<k->f i=g i)->sm f k=sm g k
 |0,_=>rfl
 |k+1,a=>by rw[sm,sm,iz<|λi b=>a i Y,a k Y]
def sU{f:G->V}{k}(a:∀i,i<k->f i=0):sm f k=0:=by
 induction k with
 |zero=>rfl
 |succ k b=>rw[sm,b<|λi d=>a i Y,a k Y];rfl
def Qp(f g:G->V):∀k,sm (λi=>f i+g i) k=sm f k+sm g k
 |0=>rfl
 |k+1=>by simp[sm,Qp f g k];omega
def BU(a:V)(f:G->V):∀k,sm (λi=>a*f i) k=a*sm f k
 |0=>by simp[sm]
 |k+1=>by simp[sm,BU a f k,qt]
def Xa a(f:G->V) k:sm (λi=>f i*a) k=sm f k*a:=by rw[fL,<-BU];exact iz<|λi _=>fL _ _
def afH(f:G->V):∀k,sm f (k+1)=f 0+sm (λi=>f<|i+1) k
 |0=>by simp[sm]
 |k+1=>by rw[sm,afH f k,sm];omega
def afI(f:G->V):∀k,sm f k=sm (λi=>f<|k-1-i) k
 |0=>rfl
 |k+1=>by rw[sm,afI f k,afH<|λi=>f<|k+1-1-i];have:sm (λi=>f<|k+1-1-(i+1)) k=sm (λi=>f<|k-1-i) k:=iz (λi _=>by congr 1;omega);rw[this,(Y:k+1-1-0=k)];omega
def afJ(b:G->G->V):∀n,sm (λi=>sm (λa=>b i a)<|i+1) n=sm (λa=>sm (λk=>b (a+k) a)<|n-a) n
 |0=>rfl
 |n+1=>by
  rw[sm,afJ b n];have d:sm (λa=>sm (λk=>b (a+k) a)<|n+1-a) n=sm (λa=>sm (λk=>b (a+k) a) (n-a)+b n a) n:=by refine iz<|λa f=>?_;rw[(Y:n+1-a=(n-a)+1),sm,(Y:a+(n-a)=n)]
  rw[show sm (λa=>sm (λk=>b (a+k) a)<|n+1-a) (n+1)=sm (λa=>sm (λk=>b (a+k) a)<|n+1-a) n+sm (λk=>b (n+k) n) (n+1-n)from J,d,Qp];rw[(Y:n+1-n=1),show sm (λa=>b n a) (n+1)=sm (λa=>b n a) n+b n n from J,show sm (λk=>b (n+k) n) 1=0+b (n+0) n from J,jZ];have g:sm (λa=>b n a) n=sm (b n) n:=rfl;omega
def PS:Type:=G->V
namespace PS
instance:Add PS:=⟨λA B i=>A i+B i⟩
instance:Mul PS:=⟨λA B=>conv A B⟩
instance:Neg PS:=⟨λA i=> -(A i)⟩
instance:_root_.Sub PS:=⟨λA B i=>A i-B i⟩
instance:OfNat PS 0:=⟨λ_=>(0:V)⟩
instance:OfNat PS 1:=⟨λi=>if i=0 then(1:V)else 0⟩
def K(a:V):PS:=λi=>if i=0 then a else 0
def X(k:G):PS:=λi=>if i=k then 1 else 0
def ext{A B:PS}(a:∀i,A i=B i):A=B:=funext a
def ef(A B:PS) i:(A+B) i=A i+B i:=rfl
def Lc(A:PS) i:(-A) i= -(A i):=rfl
def nK(A B:PS) i:(A-B) i=A i-B i:=rfl
def mB i:(0:PS) i=0:=rfl
def fM(A B:PS) n:(A*B) n=sm (λi=>A i*B (n-i)) (n+1):=Qo A B n<|n+1
def jS(A B:PS):A+B=B+A:=ext λi=>yh _ _
def kq(A B C:PS):A+B+C=A+(B+C):=ext λi=>Int.add_assoc _ _ _
def iI(A:PS):0+A=A:=ext λi=>Ee _
def fA(A:PS):A+0=A:=ext λi=>tV _
def k6(A:PS):A+ -A=0:=ext λi=>Int.add_right_neg _
def afK(A:PS): -A+A=0:=ext λi=>Int.add_left_neg _
def fB(A B:PS):A-B=A+ -B:=ext λi=>WV
def neg_zero: -(0:PS)=0:=rfl
def rB(A B:PS): -(A+B)= -A+ -B:=ext λi=>Int.neg_add
def dk(A B:PS):A*B=B*A:=by
 refine ext λn=>?_
 rw[fM,fM,afI];refine iz<|λi a=>?_;rw[fL];congr 1<;>congr 1<;>omega
def fN(A B C:PS):A*(B+C)=A*B+A*C:=by
 refine ext λn=>?_
 rw[ef,fM,fM,fM,<-Qp];exact iz (λi _=>by rw[ef,qt])
def gQ(A B C:PS):(A+B)*C=A*C+B*C:=by rw[dk,fN,dk C A,dk C B]
def dc(A B C:PS):A*B*C=A*(B*C):=by
 refine ext λn=>?_
 rw[fM,fM];have a:sm (λi=>(A*B) i*C (n-i)) (n+1)=sm (λi=>sm (λj=>A j*B (i-j)*C (n-i))<|i+1) (n+1):=iz (λi _=>by rw[fM,Xa]);rw[a,afJ<|λi j=>A j*B (i-j)*C (n-i)];refine iz<|λj b=>?_;rw[fM,<-BU,(Y:n+1-j=n-j+1)];refine iz<|λk d=>?_;rw[ko,(Y:j+k-j=k),(Y:n-(j+k)=n-j-k)]
def g6(A:PS):A*0=0:=by
 refine ext λn=>?_
 rw[fM];exact sU (λi _=>by rw[mB,iO])
def dy(A:PS):0*A=0:=by rw[dk,g6]
def lD k A i:(X k*A) i=if k<=i then A (i-k)else 0:=by
 rw[fM];by_cases h:k<=i
 .rw[q h];have e:sm (λj=>X k j*A (i-j)) (i+1)=X k k*A (i-k):=by have:=PK (X k) A i k (i+1) Y (λj _ a=>by simp[X,a]);exact(Qo (X k) A i<|i+1).symm.trans this
  rw[e];simp[X]
 .rw[y h];exact sU (λj a=>by simp[X,(Y:j≠k)])
def eN a A i:(K a*A) i=a*A i:=by rw[fM];have:=PK (K a) A i 0 (i+1) Y (λj _ b=>by simp[K,b]);rw[show sm (λj=>K a j*A (i-j)) (i+1)=K a 0*A (i-0)from(Qo (K a) A i<|i+1).symm.trans this];simp[K]
def Ld:(1:PS)=K 1:=rfl
def jT:K 0=0:=ext λi=>by simp[K,mB]
def c8(A:PS):1*A=A:=ext λi=>by rw[Ld,eN,mu]
def fO(A:PS):A*1=A:=by rw[dk,c8]
def neg_eq A: -A=K (-1)*A:=ext λi=>by rw[eN,Lc];omega
def neg_mul(A B:PS): -A*B= -(A*B):=by rw[neg_eq,neg_eq<|A*B,dc]
def mul_neg(A B:PS):A* -B= -(A*B):=by rw[dk,neg_mul,dk B A]
def vp a b:K (a+b)=K a+K b:=ext λi=>by rw[ef];unfold K;split<;>rfl
def BV a b:K (a*b)=K a*K b:=ext λi=>by rw[eN];unfold K;split<;>simp
def Eg a k:X (a+k)=X a*X k:=ext λi=>by
 rw[lD];unfold X;by_cases h:a<=i
 .rw[q h];by_cases h2:i=a+k
  .rw[q h2,q Y]
  .rw[y h2,y Y]
 .rw[y h,y Y]
instance:Std.Associative (α:=PS) (·+·):=⟨kq⟩
instance:Std.Commutative (α:=PS) (·+·):=⟨jS⟩
instance:Std.Associative (α:=PS) (·*·):=⟨dc⟩
instance:Std.Commutative (α:=PS) (·*·):=⟨dk⟩
end PS
def ps(a:E V):PS:=λi=>I a i 0
def cT a i:ps a i=I a i 0:=rfl
def Cg(m:V)(A B:PS):Prop:=∃U:PS,A=B+PS.K m*U
def Cg.at{m}{A B}(a:Cg m A B) i:A i%m=B i%m:=by obtain⟨U,rfl⟩:=a;rw[PS.ef,PS.eN];exact P7 _ _ _
def Cg.of{m}{A B}(a:∀i,A i%m=B i%m):Cg m A B:=by
 let U:PS:=λi=>A i/m-B i/m
 refine⟨U,PS.ext λi=>?_⟩;have b:=pM (A i) m;have d:=pM (B i) m;have:=a i;have e:U i=A i/m-B i/m:=rfl;rw[PS.ef,PS.eN,e,HC];omega
def Cg.dvd{m}{A B}(a:Cg m A B) i:m∣A i-B i:=by obtain⟨U,rfl⟩:=a;rw[PS.ef,PS.eN];exact⟨U i,Y⟩
def Cg.Xb{m}{A B}(a:∀i,m∣A i-B i):Cg m A B:=Cg.of λi=>Xc.2<|Eh<|a i
def Cg.refl m A:Cg m A A:=⟨0,by rw[PS.g6,PS.fA]⟩
def Cg.of_eq{m}{A B}(a:A=B):Cg m A B:=a▸Cg.refl m A
def Cg.symm{m}{A B}(a:Cg m A B):Cg m B A:=Cg.of λi=>(a.at i).symm
def Cg.trans{m}{A B C}(a:Cg m A B)(k:Cg m B C):Cg m A C:=Cg.of λi=>(a.at i).trans<|k.at i
def Cg.add{m}{A B C D}(a:Cg m A B)(k:Cg m C D):Cg m (A+C) (B+D):=by obtain⟨U,rfl⟩:=a;obtain⟨V,rfl⟩:=k;exact⟨U+V,by rw[PS.fN];ac_rfl⟩
def Cg.neg{m}{A B}(a:Cg m A B):Cg m (-A) (-B):=by obtain⟨U,rfl⟩:=a;exact⟨-U,by rw[PS.rB,PS.mul_neg]⟩
def Cg.sub{m}{A B C D}(a:Cg m A B)(k:Cg m C D):Cg m (A-C) (B-D):=by rw[PS.fB,PS.fB];exact a.add k.neg
def Cg.mul{m}{A B C D}(a:Cg m A B)(k:Cg m C D):Cg m (A*C) (B*D):=by obtain⟨U,rfl⟩:=a;obtain⟨V,rfl⟩:=k;refine⟨B*V+U*D+PS.K m*U*V,?_⟩;simp[PS.fN,PS.gQ];ac_rfl
def Cg.Le{m}A{C D}(k:Cg m C D):Cg m (A*C) (A*D):=(Cg.refl m A).mul k
def Cg.Ei{m}{A B}(k:Cg m A B) C:Cg m (A*C) (B*C):=k.mul<|Cg.refl m C
def Cg.afL{m}A{C D}(k:Cg m C D):Cg m (A+C) (A+D):=(Cg.refl m A).add k
def Cg.HL{m}{A B}(k:Cg m A B) C:Cg m (A+C) (B+C):=k.add<|Cg.refl m C
def Cg.K{m a b}(d:a%m=b%m):Cg m (PS.K a) (PS.K b):=Cg.of λi=>by
 unfold PS.K;split
 .exact d
 .rfl
def Dl(p:V)(n:G)(A:PS):Prop:=∀i,n<=i->A i%p=0
def Dl.cg{p}{n}{A B}(a:Dl p n A)(k:Cg p A B):Dl p n B:=λi b=>by rw[<-k.at i];exact a i b
def Dl.le{p}{n m}{A}(a:Dl p n A)(k:n<=m):Dl p m A:=λi b=>a i Y
def Dl.add{p}{n}{A B}(b:Dl p n A)(k:Dl p n B):Dl p n (A+B):=λi a=>by rw[PS.ef,Lf,b i a,k i a];rfl
def Dl.neg{p}{n}{A}(a:Dl p n A):Dl p n (-A):=λi b=>by rw[PS.Lc];exact Eh<|Int.dvd_neg.2<|HM<|a i b
def Dl.sub{p}{n}{A B}(a:Dl p n A)(k:Dl p n B):Dl p n (A-B):=by rw[PS.fB];exact a.add k.neg
def afM{p}{f:G->V}{k}(a:∀i,i<k->f i%p=0):sm f k%p=0:=by
 induction k with
 |zero=>exact iP _
 |succ k b=>rw[sm,Lf,b<|λi d=>a i Y,a k Y];rfl
def Qq{p a b:V}(d:a%p=0):a*b%p=0:=by rw[sV,d,oU,iP]
def Qr{p a b:V}(d:b%p=0):a*b%p=0:=by rw[fL];exact Qq d
def Dl.mul{p}{n m}{A B}(b:Dl p (n+1) A)(k:Dl p m B):Dl p (n+m) (A*B):=λi d=>by
 rw[PS.fM];refine afM<|λj f=>?_;by_cases a:n+1<=j
 .exact Qq<|b j a
 .exact Qr<|k (i-j) Y
def Dl.mul'{p}{n m}{A B}(a:Dl p n A)(k:Dl p m B):Dl p (n+m) (A*B):=by
 cases n with
 |zero=>
  intro i b
  rw[PS.fM]
  exact afM<|λj d=>Qq<|a j<|bg _
 |succ n=>exact(a.mul k).le Y
def Dl.top{p}{n m}{A B}(b:Dl p (n+1) A)(k:Dl p (m+1) B):(A*B) (n+m)%p=A n*B m%p:=by
 rw[PS.fM];have:∀r,r<=n+m+1->sm (λi=>A i*B (n+m-i)) r%p=if n<r then A n*B m%p else 0:=by
  intro r f;induction r with
  |zero=>simp[sm]
  |succ r d=>
   rw[sm,Lf,d Y]
   by_cases a:n<r
   .rw[q a,q Y,Qq<|b r Y,tV,ou]
   .rw[y a];by_cases h2:n=r
    .subst h2;rw[q Y,Ee,ou,(Y:n+m-n=m)]
    .rw[y Y,Qr<|k _ Y];rfl
 rw[this _ (aL _),q Y]
def ar'{p}{A}(a:Dl p 0 A):Cg p A 0:=Cg.of λi=>by rw[a i (bg _),PS.mB,iP]
def mD p a:Dl p (Z a) (ps a):=λi b=>by rw[cT,aO,iw b];simp
def asa p k:Dl p (k+1) (PS.X k):=λi a=>by unfold PS.X;rw[y Y];simp
def Xd p a:Dl p 1 (PS.K a):=λi b=>by unfold PS.K;rw[y Y];simp
def asb p n:Dl p n 0:=λi _=>by rw[PS.mB,iP]
def afN p:Dl p 1 1:=Xd p 1
def eO(p:G):Prop:=2<=p/\∀d,2<=d->d*d<=p->p%d≠0
def eO.HO{p d}(b:eO p)(g:d∣p):d=1\/d=p:=by
 let ⟨e,he⟩:=g;have k:=b.1;have l:d≠0:=by intro a;subst a;simp at he;omega
 have a:e≠0:=by intro a;subst a;simp at he;omega
 by_cases d1:d=1
 .exact .inl d1
 by_cases i:e=1
 .subst i;right;omega
 exfalso;by_cases f:d<=e
 .exact b.2 d Y (by rw[he];exact gD d f) (by rw[he];exact Nat.mul_mod_right d e)
 .exact b.2 e Y (by rw[he];exact dS e Y) (by rw[he];exact Nat.mul_mod_left d e)
def eO.coprime{p a}(b:eO p)(d:¬p∣a):Nat.Coprime p a:=by
 rcases b.HO (Nat.gcd_dvd_left p a)with e|e
 .exact e
 .exact aF (e▸Xe p a) d
def eO.dvd_mul{p a b}(f:eO p)(g:p∣a*b):p∣a\/p∣b:=by
 by_cases d:p∣a
 .exact .inl d
 .exact .inr<|(f.coprime d).dvd_of_dvd_mul_left g
def eO.afO{p}{a b}(d:eO p)(f:(p:V)∣a*b):(p:V)∣a\/(p:V)∣b:=by
 have:p∣aC a*aC b:=by rw[<-tZ];have:=Lg.2 f;rwa[rC]at this
 rcases d.dvd_mul this with e|e
 .exact .inl (Lg.1<|by rwa[rC])
 .exact .inr (Lg.1<|by rwa[rC])
def eO.oW{p}{a b}(d:eO p)(f:a%(p:V)≠0)(g:b%(p:V)≠0):a*b%(p:V)≠0:=λe=>by
 rcases d.afO (HM e)with e|e
 .exact f<|Eh e
 .exact g<|Eh e
def ch:G->G->G
 |_,0=>1
 |0,_+1=>0
 |n+1,k+1=>ch n k+ch n (k+1)
def ua n:ch n 0=1:=by cases n<;>rfl
def BW:∀(n k:G),n<k->ch n k=0
 |0,0,a=>by omega
 |0,k+1,_=>rfl
 |n+1,0,a=>by omega
 |n+1,k+1,a=>by rw[ch,BW n k Y,BW n (k+1) Y]
def Lh:∀n,ch n n=1
 |0=>rfl
 |n+1=>by rw[ch,Lh n,BW n (n+1) Y]
def Qs:∀(n k:G),(k+1)*ch (n+1) (k+1)=(n+1)*ch n k
 |0,0=>rfl
 |0,k+1=>by rw[BW 1 (k+1+1) Y];rfl
 |n+1,0=>by have:=Qs n 0;rw[ua]at this;rw[show ch (n+1+1) (0+1)=ch (n+1) 0+ch (n+1) (0+1)from J,ua];omega
 |n+1,k+1=>by have a:=Qs n k;rw[ch,yk,Qs n<|k+1];rw[(Jl:(k+1+1)*ch (n+1) (k+1)=(k+1)*ch (n+1) (k+1)+ch (n+1) (k+1)),a];rw[show ch (n+1) (k+1)=ch n k+ch n (k+1)from J];grind
def eO.Xf{p k}(a:eO p)(d:0<k)(f:k<p):p∣ch p k:=by
 obtain⟨n,rfl⟩:∃n,p=n+1:=⟨p-1,Y⟩;obtain⟨j,rfl⟩:∃j,k=j+1:=⟨k-1,Y⟩;have b:n+1∣(j+1)*ch (n+1) (j+1):=⟨ch n j,Qs n j⟩;rcases a.dvd_mul b with e|e
 .have:=wZ Y e;omega
 .exact e
def pw(A:PS):G->PS
 |0=>1
 |n+1=>pw A n*A
def sP(f:G->PS):G->PS
 |0=>0
 |k+1=>sP f k+f k
def Xg{f g:G->PS}:∀{k:G},(∀i,i<k->f i=g i)->sP f k=sP g k
 |0,_=>rfl
 |k+1,a=>by rw[sP,sP,Xg<|λi b=>a i Y,a k Y]
def afP(f g:G->PS):∀k,sP (λi=>f i+g i) k=sP f k+sP g k
 |0=>(PS.fA 0).symm
 |k+1=>by simp[sP,afP f g k];ac_rfl
def Xh(f:G->PS)(A:PS):∀k,sP (λi=>f i*A) k=sP f k*A
 |0=>(PS.dy A).symm
 |k+1=>by simp[sP,Xh f A k,PS.gQ]
def Qt(f:G->PS):∀k,sP f (k+1)=f 0+sP (λi=>f<|i+1) k
 |0=>by simp[sP];exact PS.jS _ _
 |k+1=>by rw[sP,Qt f k,sP,PS.kq]
def asc{m}{f:G->PS}{k}(a:∀i,i<k->Cg m (f i) 0):Cg m (sP f k) 0:=by
 induction k with
 |zero=>exact Cg.refl m _
 |succ k b=>
  have:=(b<|λi d=>a i Y).add<|a k Y
  rwa[PS.fA]at this
def afQ(A B:PS):∀n,pw (A+B) n=sP (λk=>PS.K (ch n k)*(pw A k*pw B (n-k))) (n+1)
 |0=>by rw[show sP (λk=>PS.K (ch 0 k)*(pw A k*pw B (0-k))) (0+1)=0+1*(1*1)from J,PS.iI,PS.fO,PS.fO];rfl
 |n+1=>by
  rw[pw,afQ A B n,PS.fN,<-Xh,<-Xh];rw[Qt (λk=>PS.K (ch (n+1) k)*(pw A k*pw B (n+1-k))) (n+1)];have a:sP (λi=>PS.K (ch (n+1)<|i+1)*(pw A (i+1)*pw B (n+1-(i+1)))) (n+1)=sP (λi=>PS.K (ch n i)*(pw A i*pw B (n-i))*A) (n+1)+sP (λi=>PS.K (ch n<|i+1)*(pw A (i+1)*pw B (n-i))) (n+1):=by rw[<-afP];refine Xg<|λi _=>?_;rw[(Y:n+1-(i+1)=n-i),ch,zQ,PS.vp,PS.gQ,pw];ac_rfl
  have b:sP (λi=>PS.K (ch n i)*(pw A i*pw B (n-i))*B) (n+1)=PS.K (ch (n+1) 0)*(pw A 0*pw B (n+1-0))+sP (λi=>PS.K (ch n<|i+1)*(pw A (i+1)*pw B (n-i))) (n+1):=by
   rw[Qt,show sP (λi=>PS.K (ch n<|i+1)*(pw A (i+1)*pw B (n-i))) (n+1)=sP (λi=>PS.K (ch n<|i+1)*(pw A (i+1)*pw B (n-i))) n+PS.K (ch n<|n+1)*(pw A (n+1)*pw B (n-n))from J];rw[BW n (n+1) Y,ua,ua,show PS.K ((0:G):V)=0 from PS.jT,PS.dy,PS.fA];have d:sP (λi=>PS.K (ch n<|i+1)*(pw A (i+1)*pw B (n-(i+1)))*B) n=sP (λi=>PS.K (ch n<|i+1)*(pw A (i+1)*pw B (n-i))) n:=by refine Xg<|λi g=>?_;rw[(Y:n-i=n-(i+1)+1),pw.eq_2 B];ac_rfl
   rw[d];have f:pw B (n+1-0)=pw B (n-0)*B:=rfl;rw[f];ac_rfl
  rw[a,b];ac_rfl
def eO.Li{p}(h:eO p) A B:Cg p (pw (A+B) p) (pw A p+pw B p):=by
 rw[afQ];obtain⟨n,rfl⟩:∃n,p=n+1:=⟨p-1,Ej⟩;rw[sP,Qt];rw[Lh,ua,(Y:n+1-(n+1)=0),DY];have e:Cg ((n+1:G):V) (sP (λi=>PS.K (ch (n+1)<|i+1)*(pw A (i+1)*pw B (n+1-(i+1)))) n) 0:=by refine asc<|λi g=>?_;have:Cg ((n+1:G):V) (PS.K (ch (n+1) (i+1):G)) (PS.K 0):=Cg.K (by rw[iP];exact Eh<|z4.2<|h.Xf (k:=i+1) Y Y);rw[PS.jT]at this;have b:=this.Ei<|pw A (i+1)*pw B (n+1-(i+1));rwa[PS.dy]at b
 have d:PS.K ((1:G):V)*(pw A 0*pw B (n+1))=pw B (n+1):=by rw[show PS.K ((1:G):V)=1 from J,PS.c8,show pw A 0=1 from J,PS.c8]
 have f:PS.K ((1:G):V)*(pw A (n+1)*pw B 0)=pw A (n+1):=by rw[show PS.K ((1:G):V)=1 from J,PS.c8,show pw B 0=1 from J,PS.fO]
 rw[d,f];have:=((Cg.refl ((n+1:G):V)<|pw B<|n+1).add e).add<|Cg.refl _<|pw A<|n+1;rw[PS.fA]at this;rw[PS.jS (pw A<|n+1)];exact this
def Xi(a:V):∀n,pw (PS.K a) n=PS.K (a^n)
 |0=>by rw[ry];rfl
 |n+1=>by rw[pw,Xi a n,<-PS.BV,gP]
def afR:∀n,pw 1 n=1
 |0=>rfl
 |n+1=>by rw[pw,afR n,PS.fO]
def eO.HP{p:G}(h:eO p):∀a:G,((a:V)^p)%(p:V)=(a:V)%(p:V)
 |0=>by obtain⟨n,rfl⟩:∃n,p=n+1:=⟨p-1,Ej⟩;rw[gP];simp
 |a+1=>by
  have b:=(h.Li (PS.K (a:V)) 1).at 0;rw[show PS.K (a:V)+1=PS.K ((a+1:G):V)by rw[PS.Ld,<-PS.vp];rfl,Xi,afR,PS.ef,Xi]at b;have d:∀c:V,PS.K c 0=c:=λc=>by simp[PS.K]
  rw[d,d,PS.Ld,d,Lf,h.HP a,<-Lf]at b;exact b
def eO.asd{p a}(h:eO p)(b:¬p∣a):a^(p-1)%p=1:=by
 obtain⟨n,rfl⟩:∃n,p=n+1:=⟨p-1,Ej⟩;have f:((n+1:G):V)∣(a:V)*((a:V)^n-1):=by rw[HC,oV,fL,<-gP];exact HM<|Xc.1<|h.HP a
 rcases h.afO f with e|e
 .exact aF (z4.1 e) b
 .have h3:((a:V)^n)%((n+1:G):V)=1%((n+1:G):V):=Xc.2<|Eh e;have g:(1:V)%((n+1:G):V)=1:=iN S Ej;rw[g]at h3;simp[eL];have:((a^n%(n+1):G):V)=1:=CY;omega
def eO.inv{p a}(b:eO p)(d:¬p∣a):a*(a^(p-2)%p)%p=1:=by rw[HQ,Nat.mod_mod,<-HQ];have:=b.asd d;have f:=b.1;rwa[(Y:p-1=p-2+1),fG,gA]at this
def Xj:∀(f b a n p:G),n<2^f->b<p->tX f b a n p=b*a^n%p
 |0,b,a,n,p,h,hr=>by have:n=0:=fg;subst this;rw[tX,qx,rh,rk hr]
 |f+1,b,a,n,p,h,hr=>by
  rw[tX];split
  next i=>subst i;rw[qx,rh,rk hr]
  .have k:0<p:=by omega
   have d:n/2<2^f:=by rw[fG]at h;omega
   have g:(a*a%p)^(n/2)%p=a^(2*(n/2))%p:=by rw[<-Nat.pow_mod,<-Nat.pow_two,Ek]
   split
   .rename_i l;rw[Xj f _ _ _ _ d (gU _ k),HQ,g,<-HQ,Nat.mod_mul_mod];have:a^n=a*a^(2*(n/2)):=by rw[gA,<-fG];congr 1;omega
    rw[this,mz]
   next l=>rw[Xj f _ _ _ _ d hr,HQ,g,<-HQ];have:2*(n/2)=n:=Y;rw[this]
def ase a n p(b:n<18446744073709551616)(d:1<p):wX a n p=a^n%p:=by rw[wX,Xj _ _ _ _ _ b<|gU _ Y,rk d,je,<-Nat.pow_mod]
def afS a p(b:p<18446744073709551616)(d:1<p):jR a p=a^(p-2)%p:=ase a (p-2) p Y d
def Xk(n:G):G->Bool:=λk=>Nat.rec (motive:=λ_=>Bool) ae (λi a=>match Nat.beq (n%(i+2)) 0 with|true=>ah|false=>a) k
def afT{n:G}:∀{k:G},Xk n k=ae->∀d,2<=d->d<k+2->n%d≠0
 |0,_,d,h2,f=>by omega
 |k+1,g,d,h2,f=>by
  have a:(match Nat.beq (n%(k+2)) 0 with|true=>ah|false=>Xk n k)=ae:=g;split at a
  .cases a
  .rename_i b;by_cases e:d=k+2
   .subst e;intro i;rw[i]at b;cases b
   .exact afT a d h2 Y
def asf:Xk 2147483647 46340=ae:=fh
def ash:eO 2147483647:=⟨S,λd a b=>afT asf d a (by
 by_cases e:d<46342
 .exact e
 .have:46342*46342<=d*d:=mA Y Y;omega)⟩
def afU:∀(m n:G),m+n=2147483647->0<m->∃p,eO p/\n<p/\p<=2147483647/\∀a,n<a->a<p->¬eO a
 |0,_,_,f=>by omega
 |m+1,n,f,_=>by
  by_cases b:eO (n+1)
  .exact⟨n+1,b,Y,Y,λa d g=>Y⟩
  .by_cases i:m=0
   .subst i;have:n+1=2147483647:=Y;rw[this]at b;exact aF ash b
   .let ⟨p,d,g,k,l⟩:=afU m (n+1) Y Y;refine⟨p,d,Y,k,λa u s=>?_⟩;by_cases t:a=n+1
    .rw[t];exact b
    .exact l a Y s
def afV n(i:eO n)(u:n<=2147483647):w O 204 [cU n] (cB ae):=by
 refine aK Tryz.func204 ?_;have v:=i.1;refine U J<|h<|R<|rg 6 J J (λf=>?_)<|λf=>?_
 .exfalso;have f:(n:V)<2:=aV f;omega
 refine M J<|F J (λk=>?_)<|λ_=>aE ?_
 .exfalso;have k:(n:V)>2147483647:=aV k;omega
 refine h<|U J<|ay<|bq (α:=G) (λd=>⟨[(0,cU n),(3,cU d)],[],4,[]⟩) (λd=>2<=d/\(d-1)*(d-1)<=n) (λd=>n+2-d) 2 ⟨S,Y⟩ aN ?_;rintro d ⟨l,m⟩;have b:d<65536:=by
  by_cases e:d<65536
  .exact e
  .have:65535*65535<=(d-1)*(d-1):=mA Y Y;omega
 have p:d*d<4294967296:=Qg b b;have s:ax .u64 ((d:V)*(d:V))=((d*d:G):V):=by rw[<-gM,bf _ Y Y]
 refine h<|U J<|F J (λa=>?_)<|λa=>(bs<|aS<|U J<|cN J)
 .have a:ax .u64 ((d:V)*(d:V))<=(n:V):=aV a;rw[s]at a;have a:d*d<=n:=Y;have t:=i.2 d l a;refine aE (h<|ay<|U J (hp:=aH)<|F J (λg=>?_)<|λ_=>di<|bP ?_)
  .exfalso;have g:(n:V).tmod (d:V)=0:=dw g;rw[oq]at g;omega
  .have:d<=n:=br (Qu d Y) a;refine rt J<|a4 (d+1) ⟨Y,by rw[eL];exact a⟩ (Y:n+2-(d+1)<n+2-d)<|wk ⟨sR J,sE J<|cj ?_,j⟩ j;show ax .u64 ((d:V)+1)=((d+1:G):V);rw[bf _ Y Y];omega
def asi n(t:¬eO n)(x:n<=2147483647):w O 204 [cU n] (cB ah):=by
 refine aK Tryz.func204 ?_;refine U J<|h<|R<|rg 6 J J (λg=>?_)<|λg=>?_
 .exact M J (F J (λ_=>U J<|bX<|cY<|atR J)<|λi=>by cases i)
 have p:2<=n:=by have g:¬(n:V)<2:=bc g;omega
 refine M J<|F J (λi=>?_)<|λ_=>aE ?_
 .exfalso;have i:(n:V)>2147483647:=aV i;omega
 refine h<|U J<|ay<|bq (α:=G) (λd=>⟨[(0,cU n),(3,cU d)],[],4,[]⟩) (λd=>2<=d/\(d-1)*(d-1)<=n/\∀k,2<=k->k<d->n%k≠0) (λd=>n+2-d) 2 ⟨S,Y,λk l p=>Y⟩ aN ?_;rintro d ⟨z,u,b⟩;have f:d<65536:=by
  by_cases e:d<65536
  .exact e
  .have:65535*65535<=(d-1)*(d-1):=mA Y Y;omega
 have v:d*d<4294967296:=Qg f f;have s:ax .u64 ((d:V)*(d:V))=((d*d:G):V):=by rw[<-gM,bf _ Y Y]
 refine h<|U J<|F J (λa=>?_)<|λa=>?_
 .have a:ax .u64 ((d:V)*(d:V))<=(n:V):=aV a;rw[s]at a;have a:d*d<=n:=Y;refine aE (h<|ay<|U J (hp:=aH)<|F J (λm=>?_)<|λm=>di<|bP ?_)
  .refine U J<|bX ?_;repeat(first|refine cY ?_|refine ma ?_|refine m0 ?_)
   exact atR J
  .have m:(n:V).tmod (d:V)≠0:=pN m;rw[oq]at m;have:d<=n:=br (Qu d Y) a;refine rt J (a4 (d+1) ⟨Y,by rw[eL];exact a,λk l p=>?_⟩ (Y:n+2-(d+1)<n+2-d)<|wk ⟨sR J,sE J ?_,j⟩ j)
   .by_cases e:k=d
    .subst e;omega
    .exact b k l Y
   .refine cj ?_;show ax .u64 ((d:V)+1)=((d+1:G):V);rw[bf _ Y Y];omega
 .exfalso;have a:¬ax .u64 ((d:V)*(d:V))<=(n:V):=bc a;rw[s]at a;refine t ⟨p,λk l g=>b k l ?_⟩;by_cases e:k<d
  .exact e
  .have:d*d<=k*k:=mA Y Y;omega
def asj n(k:n<2147483647):∃p,eO p/\n<p/\p<=2147483647/\(∀a,n<a->a<p->¬eO a)/\w O 174 [cU n] (.t [(ah,[.I .u64 p]),(ah,[.I .i64 0])]):=by
 let ⟨p,d,h2,f,g⟩:=afU (2147483647-n) n Y Y;refine⟨p,d,h2,f,g,?_⟩;refine aK Tryz.func174 ?_;refine U J<|bI<|U J<|F J (λh=>?_)<|λ_=>aE ?_
 .exfalso;have h:(n:V)>=2147483647:=aV h;omega
 refine U J<|bI<|ay<|bq (α:=G) (λa=>⟨[(4,cU a)],[],4,[]⟩) (λa=>n<a/\a<=p) (λa=>p-a) (n+1) ⟨Y,Y⟩ (wk ⟨sE J ?_,j⟩ j) ?_
 .refine cj ?_;show ax .u64 ((n:V)+1)=((n+1:G):V);rw[bf _ Y Y];omega
 rintro a ⟨b,i⟩;by_cases e:a=p
 .subst e;refine bI<|bQ J J (afV a d f) J<|F J (λh=>gL)<|λ_=>?_;exact bs<|aS<|U J<|cN J
 .refine bI<|bQ J J (asi a (g a b Y) Y) J<|F J (λ_=>?_)<|λh=>gL;refine aE<|ay<|rt J<|fF<|a4 (a+1) ⟨Y,Y⟩ (Y:p-(a+1)<p-a)<|wk ⟨sE J ?_,j⟩ j;refine cj ?_;show ax .u64 ((a:V)+1)=((a+1:G):V);rw[bf _ Y Y];omega
end Go.El
