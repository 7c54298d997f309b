/- Own work; no condition. -/
import Derived.Test.YtceihkmakfdcnaaGreatC10
import Derived.Test.YtceihkmakfdcnaaGreatC7
import Derived.Test.YtceihkmakfdcnaaGreatC9
import Derived.Test.YtceihkmakfdcnaaGreatC6
import Derived.Test.YtceihkmakfdcnaaGreatC3
import Derived.Test.YtceihkmakfdcnaaGreatC4
import Derived.Test.YtceihkmakfdcnaaGreatC5
set_option linter.all false
set_option maxHeartbeats 16000000
set_option maxRecDepth 100000
open Array renaming replicate->sD
open Bool renaming true->ae,false->ah
open Go renaming Program->bW,Oper->a8,TypeId->eI
open Go.Builtin renaming copy_->ahE
open Go.Deferred renaming ofValue->zs
open Go.El renaming cS->e,rr->U,iJ->o,re->M,bI->h,cI->c,rb->R,jz->w,NB->F
open Go.Proofs.Tryz renaming prog->O
open Int renaming gcd->jl,natAbs->aC,ediv_mul_cancel->atJ,toNat->af
open List renaming replicate->bx,length->Z,take->r,getD->I,range->bJ,map->Yn,drop->az
open Nat renaming Coprime->Yk,blt->dZ,ble->fa
open Nat.Coprime renaming mul_right->atL
open Option renaming some->ad
open Rat renaming divInt->kQ,inv_def->ahx,intCast_zero->ahF
open _root_ renaming Nat->G,Rat->L,Int->V,List->E
namespace Go.El
open Go Go.Proofs Go.RowKit
structure QS(k:G)(r:L):Prop where
 n:aJ k r.num
 d:aJ k (r.den:V)
def QS.le{a k}{b}(f:QS a b)(g:a<=k):QS k b:=⟨f.n.le g,f.d.le g⟩
def Rn{a}:gH a<0↔a<0:=by unfold gH;split<;>(try split)<;>omega
def yC{a}:gH a=0↔a=0:=by unfold gH;split<;>(try split)<;>omega
def L3{b}{n d}(f:b.num=n)(g:(b.den:V)=d):AV.a [C.B (cD n),C.S ao<|fo n,C.B<|cD d,C.S ao<|fo d]=aQ b:=by subst f g;rfl
def Yf{n d}(a:0<d):(kQ n d).num=n/((jl n d:G):V)/\((kQ n d).den:V)=d/((jl n d:G):V):=by have:=PI n d Y;rwa[y Y]at this
def Ro{n d}(a:0<d)(b:jl n d=1):(kQ n d).num=n/\((kQ n d).den:V)=d:=by have:=Yf (n:=n) a;rwa[b,show(((1:G):V))=1 from J,wR,wR]at this
def Yg n d(i:0<d)(k:Sm n)(a:Sm d):w O 126 [aZ n,aZ d] (aQ<|kQ n d):=by
 refine aK Tryz.func126 ?_;let ⟨p1,l⟩:=Yf (n:=n) i;have m:jl n d≠0:=λp=>by have:=(Wv.1 p).2;omega
 have f:Sm ((jl n d:G):V):=br (vn<|show aC (((jl n d:G):V))<=aC d from Nat.gcd_le_right _ Y) a;refine U J<|h<|bQ J J (Ie d) J<|F J (λb=>?_)<|λ_=>aE ?_
 .have b:d=1:=aV b;subst b;let ⟨c1,g⟩:=Ro (n:=n) S<|Int.gcd_one_right ..;exact U J<|bX<|cY<|fK J<|L3 c1 g
 refine bQ J J (atG n d k a) J<|h<|R<|rc J J (Ie _)<|M J<|F J (λb=>?_)<|λ_=>aE ?_
 .have b:((jl n d:G):V)=1:=aV b;let ⟨c1,g⟩:=Ro i<|Int.ofNat.inj b;exact U J<|bX<|cY<|fK J<|L3 c1 g
 refine bQ J J (afy n _ Y k f) J<|R<|rc J J (afy d _ Y a f)<|M J<|U J<|cv J<|L3 p1 l
def den_pos(a:L):0<(a.den:V):=kw a.den_nz
def ahw a(b:Sm a.num):w O 71 [aQ a] (aQ<| -a):=by refine aK Tryz.func71 ?_;refine U J<|bQ J J (Wz a.num b) J<|cv J<|L3 J J
def Yh a:w O 137 [aQ a] (c<|gH a.num):=by refine aK Tryz.func137 ?_;exact U J<|bQ J J (aeZ a.num) J<|cN J
def atI n:w O 123 [aZ n] (aQ (n:L)):=by refine aK Tryz.func123 ?_;exact U J<|bQ J J (Wy 1 S S) J<|cv J J
def If n(a: -9223372036854775808<=n)(b:n<=9223372036854775807):w O 70 [c n] (aQ (n:L)):=by refine aK Tryz.func70 ?_;exact U J<|R<|rc J J (Wy n a b)<|rc J J (atI n)<|M J<|cN J
def L4 a(f:a.num≠0)(g:Sm a.num)(i:Sm (a.den:V)):w O 115 [aQ a] (.t [(ae,av .q a⁻¹),(ah,[.I .i64 0])]):=by
 refine aK Tryz.func115 ?_;have d:jl (a.den:V) a.num=1:=by have:=a.reduced;rw[Int.gcd_comm];exact this
 refine U J<|h<|bQ J J (aeZ a.num) J<|ay<|U J<|F J (λb=>?_)<|λb=>?_
 .exfalso;have b:gH a.num=0:=dw b;exact f<|yC.1 b
 refine U J<|F J (λb=>?_)<|λb=>?_
 .have b:gH a.num= -1:=dw b;have b:a.num<0:=Rn.1 Y;have e:(a⁻¹).num= -(a.den:V)/\(((a⁻¹).den:G):V)= -a.num:=by
   rw[ahx];have:=PI (a.den:V) a.num f;rw[q b,d]at this;rw[this.1,this.2];constructor
   .rw[show-(((1:G):V))= -1 from J,D8,wR]
   .rw[show-(((1:G):V))= -1 from J,D8,wR]
  refine R<|rc J J (Wz (a.den:V) i)<|rc J J (Wz a.num g)<|M J<|bX ?_;repeat(first|refine cY ?_|refine ma ?_|refine m0 ?_)
  refine fK J ?_;show AV.t [(ae,[C.B (cD<| -(a.den:V)),C.S ao<|fo<| -(a.den:V),C.B<|cD<| -a.num,C.S ao<|fo<| -a.num]),(ah,[C.I .i64 0])]=_;rw[<-e.1,<-e.2];rfl
 .have b:¬gH a.num= -1:=pN b;have b:0<a.num:=by
   unfold gH at b;split at b
   .omega
   .omega
  have e:(a⁻¹).num=(a.den:V)/\(((a⁻¹).den:G):V)=a.num:=by rw[ahx];exact Ro b d
  refine di<|bP<|U J<|cv J ?_;show AV.t [(ae,[C.B (cD (a.den:V)),C.S ao<|fo (a.den:V),C.B<|cD a.num,C.S ao<|fo a.num]),(ah,[C.I .i64 0])]=_;rw[<-e.1,<-e.2];rfl
def ahy{k}a b(f:QS k a)(g:QS k b)(A:k<=500000000000):w O 77 [aQ a,aQ b] (aQ<|a+b):=by
 refine aK Tryz.func77 ?_;have s:=f.n.mul g.d;have t:=g.n.mul f.d;have i:=f.d.sm Y;have l:=g.d.sm Y;have e:kQ (a.num*(b.den:V)+b.num*(a.den:V)) ((a.den:V)*(b.den:V))=a+b:=by have B:=den_pos a;have C:=den_pos b;rw[<-Yi _ _ Y Y,pQ,pQ]
 rw[<-e];exact U J<|R<|rl .z [a.num,(b.den:V)] J J (rc J J (L2 _ _ (f.n.sm Y) l)<|rl .z [b.num,(a.den:V)] J J (rc J J (L2 _ _ (g.n.sm Y) i)<|rc J J (arN _ _ (s.sm Y)<|t.sm Y)<|M J<|R<|rl .z [(a.den:V),(b.den:V)] J J (rc J J (L2 _ _ i l)<|rc J J (Yg _ _ (Ea (den_pos a)<|den_pos b) ((s.add t).sm Y)<|(f.d.mul g.d).sm Y)<|M J<|cN J)))
def ahz{a b f d}(i:jl a b=1)(k:f∣a)(l:d∣b):jl f d=1:=by have g:((jl f d:G):V)∣((jl a b:G):V):=Int.dvd_coe_gcd (LL (Int.gcd_dvd_left ..) k)<|LL (Wu ..) l;rw[i]at g;have:=Int.ofNat_dvd.1 g;exact Nat.dvd_one.1 this
def Yj{n d}(a:0<d):(kQ n d).num∣n/\(((kQ n d).den:G):V)∣d:=by let ⟨b,h2⟩:=Yf (n:=n) a;rw[b,h2];exact⟨⟨_,(atJ<|Int.gcd_dvd_left ..).symm⟩,⟨_,(atJ<|Wu ..).symm⟩⟩
def aJ.dvd{n}{a b}(f:aJ n a)(d:b∣a)(g:a≠0):aJ n b:=by have:=wZ Y<|Lg.2 d;unfold aJ at*;omega
def L5{k}{n d}(a:0<d)(b:aJ k n)(f:aJ k d):QS k (kQ n d):=by
 let ⟨g,h2⟩:=Yj (n:=n) a;refine⟨?_,f.dvd h2 Y⟩;by_cases e:n=0
 .subst e;rw[Rat.zero_divInt];exact aJ.zero _
 .exact b.dvd g e
def QS.add{k}{a b}(f:QS k a)(g:QS k b):QS (2*k+1) (a+b):=by
 have i:=den_pos a;have l:=den_pos b;have e:kQ (a.num*(b.den:V)+b.num*(a.den:V)) ((a.den:V)*(b.den:V))=a+b:=by rw[<-Yi _ _ Y Y,pQ,pQ]
 rw[<-e];exact L5 (Ea i l) (((f.n.mul g.d).add<|g.n.mul f.d).le Y)<|(f.d.mul g.d).le Y
def QS.mul{k}{a b}(f:QS k a)(g:QS k b):QS (2*k) (a*b):=by
 have e:kQ (a.num*b.num) ((a.den:V)*(b.den:V))=a*b:=by rw[<-Ig,pQ,pQ]
 rw[<-e];exact L5 (Ea (den_pos a)<|den_pos b) ((f.n.mul g.n).le Y)<|(f.d.mul g.d).le Y
def QS.neg{k}{a}(b:QS k a):QS k (-a):=⟨b.n.neg,b.d⟩
def Rp{k}a b(g:QS k a)(i:QS k b)(hk:k<=500000000000):w O 72 [aQ a,aQ b] (aQ<|a*b):=by
 refine aK Tryz.func72 ?_;have B:=L5 (n:=a.num) (den_pos b) g.n i.d;have C:=L5 (n:=b.num) (den_pos a) i.n g.d;let ⟨l1,l2⟩:=Yj (n:=a.num)<|den_pos b;let ⟨r1,D⟩:=Yj (n:=b.num)<|den_pos a;have v:=Yg a.num (b.den:V) (den_pos b) (g.n.sm Y)<|i.d.sm Y;have x:=Yg b.num (a.den:V) (den_pos a) (i.n.sm Y)<|g.d.sm Y;have e:kQ a.num (b.den:V)*kQ b.num (a.den:V)=a*b:=by rw[Ig,fL (b.den:V),<-Ig,pQ,pQ]
 have H:jl a.num (a.den:V)=1:=a.reduced;have K:jl b.num (b.den:V)=1:=b.reduced;generalize kQ a.num (b.den:V)=L at*;generalize kQ b.num (a.den:V)=f at*;have A:jl (L.num*f.num) ((L.den:V)*(f.den:V))=1:=by have l:jl L.num (L.den:V)=1:=L.reduced;have m:jl f.num (f.den:V)=1:=f.reduced;have Q:Yk (aC L.num) L.den:=l;have T:Yk (aC f.num) f.den:=m;have W:Yk (aC L.num) f.den:=(ahz H l1 D);have X:Yk (aC f.num) L.den:=(ahz K r1 l2);show Nat.gcd (aC<|L.num*f.num) (aC<|(L.den:V)*(f.den:V))=1;rw[tZ,tZ];exact Nat.Coprime.mul_left (atL Q W)<|atL X T
 let ⟨l,m⟩:=Ro (Ea (den_pos L)<|den_pos f) A;rw[<-Ig,pQ,pQ,e]at l m;exact U J<|bQ J J v J<|R<|rc J J x<|M J<|R<|rl .z [L.num,f.num] J J (rc J J (L2 _ _ (B.n.sm Y)<|C.n.sm Y)<|rl .z [(L.den:V),(f.den:V)] J J (rc J J (L2 _ _ (B.d.sm Y)<|C.d.sm Y)<|M J<|cv J<|L3 l m))
def pT(a b:L):V:=if a<b then-1 else if b<a then 1 else 0
abbrev ZZ:ET:= .pr .z .z
def qz(a:L):V×V:=(a.num,(a.den:V))
def Rq k(l:E L):mb (.vec k ZZ<|l.map qz) (.vec k .q l):=by
 refine⟨λN g W x h=>?_,λ_ h=>gL⟩;rcases h with⟨a,d⟩|⟨b,f,vs,a,d,p,m,n,s,t,u⟩
 .exact .inl ⟨a,List.map_eq_nil_iff.1 d⟩
 .rw[dj]at a m n;refine .inr ⟨b,f,vs,a,d,p,m,n,λi v=>?_,t,u⟩;have:=s i (by rw[dj];exact v);rw[Di]at this;exact this
def ahA(f:E L):bu (.c<|.S .q f) (.c<|.S ZZ<|f.map qz):=by
 refine⟨λg v h=>?_,λ_ h=>by simpa[AV.ak,C.ak]using h⟩;obtain⟨a,k,m,n,p,d⟩:nl (dq g.H .q) 4 g.H f v:=h;refine⟨a,k,by rw[dj];exact m,by rw[dj];exact n,by rw[dj];exact p,?_⟩;rcases d with d|⟨b,off,e,d⟩
 .exact .inl (by rw[d];rfl)
 .refine .inr ⟨b,off,e,λi l=>?_⟩;rw[dj]at l;let ⟨cs,c1,s,t⟩:=d i l;exact⟨cs,c1,by rw[Di];exact s,t⟩
def atM{d:Type}(a b:d){i n}(f:i<n):(bx i a++bx (n-i) b).set i a=bx (i+1) a++bx (n-(i+1)) b:=by rw[P6 _ _ au,ig,kg,(Y:n-i=(n-(i+1))+1),Bb,WG,List.replicate_succ',nt];rfl
def Rt(n:G)(d:n<=1000):qq O 118 [c n] 44 .q (bx n 0):=by
 refine KH Tryz.func118 J J J J S<|U J<|R<|rm ZZ n J J J J J J VV J ?_ ?_<|M J<|h<|U J ?_
 .show n*64<=_;omega
 .show n*4<=_;omega
 refine ay<|bq (α:=G) (λi=>⟨[(3,.c<|.X 1001000),(7,c n),(8,c i)],[(1001000,.vec 44 ZZ<|bx i (0,1)++bx (n-i) (0,0))],3,[]⟩) (λi=>i<=n) (λi=>n-i) 0 (bg _) (wk (bK J) ⟨bE J J,j⟩) ?_;intro i f;refine U J<|h<|F J (λa=>?_)<|λa=>?_
 .have a:i<n:=by have a:(i:V)<(n:V):=aV a;omega
  have b:Z (bx i ((0,1):V×V)++bx (n-i) (0,0))=n:=cd;refine di<|aS<|h<|ay<|U J<|cG<|rc J J (If 0 S S)<|wF ((0,1):V×V) J J J J J ?_ (M J<|bP<|rt J (hp:=aH)<|a4 (i+1) a L6<|wk (bK J) ⟨bE J ?_,j⟩) (hp:=?_)
  .show af ((i:V))<_;rw[b];omega
  .refine bm (aA.vec 44 ZZ) ?_;show(bx i ((0,1):V×V)++bx (n-i) (0,0)).set (af<|(i:V)) (0,1)=_;rw[cC,atM _ _ a]
  .show 0<=(i:V)/\(i:V)<(Z (bx i ((0,1):V×V)++bx (n-i) (0,0)):V);rw[b];omega
 .have a:i=n:=by have a:¬(i:V)<(n:V):=bc a;omega
  subst a;refine bs<|aS<|fq (st':=⟨[(3,.c<|.X 1001000)],[(1001000,.vec 44 .q<|bx i 0)],4,[]⟩) (wk ⟨sR J,j⟩ ⟨⟨_,J,?_⟩,j⟩)<|U J<|bX<|KG (id:=1001000) cq J J;have:=Rq 44<|bx i 0;rw[List.map_replicate]at this;rw[kg,Gf,ji];exact this
def L7(xs:E L)(i:Z xs<=1000000):w O 120 [e .q xs] (e .q<|gI xs):=by
 refine aK Tryz.func120 ?_;refine U J<|U J<|h<|ay<|bq (α:=G) (λk=>⟨[(0,e .q xs),(3,c k)],[],2,[]⟩) (λk=>k<=Z xs/\lC xs k=lC xs (Z xs)) (λk=>k) (Z xs) ⟨aL _,J⟩ aN ?_;rintro k ⟨l,a⟩;have d:lC xs k=k->bu (e .q<|r k xs) (e .q<|gI xs):=λf=>by refine bu.of_eq ?_;unfold gI;rw[<-a,f]
 refine h<|R<|rg 8 J J (λb=>?_)<|λb=>?_
 .have b:0<k:=by have b:(k:V)>0:=aV b;omega
  obtain⟨j,rfl⟩:∃j,k=j+1:=⟨k-1,Y⟩;have g:af (((j+1:G):V)-1)=j:=Y;refine jF J J J J J (Yh<|I xs (af<|((j+1:G):V)-1) 0) (M J<|F J (λh2=>?_)<|λh2=>?_) (hp:=lQ)
  .have h2:(I xs j 0).num=0:=by have h2:gH (I xs (af<|((j+1:G):V)-1) 0).num=0:=dw h2;rw[g]at h2;exact yC.1 h2
   refine aE<|ay<|rt J (fF<|a4 j ⟨Y,?_⟩ vk<|wk ⟨sR J,sE J<|jQ (Y:((j+1:G):V)-1=(j:V)),fp⟩ fp) (hp:=lQ)
   .rw[<-a,lC,q h2]
  .have h2:(I xs j 0).num≠0:=by have h2:gH (I xs (af<|((j+1:G):V)-1) 0).num≠0:=pN h2;rw[g]at h2;exact λf=>h2 (yC.2 f)
   exact bs<|aS<|U J (bX<|iX cq J<|d<|by rw[lC,y h2]) (hp:=aH)
 .have b:k=0:=by have b:¬(k:V)>0:=bc b;omega
  subst b;exact M J<|F J (λh2=>pO)<|λ_=>bs<|aS<|U J (bX<|iX cq J<|d J) (hp:=aH)
def pU(a:E L)(d:L)(b:E L)(k m:G):E L:=(bJ<|Z a).map λi=>if k<=i/\i<k+m then I a i 0+d*I b (i-k) 0 else I a i 0
def kS(a:E L)(d:L)(b:E L)(k:G):E L:=pU a d b k<|Z b
def oY(a d b k m):Z (pU a d b k m)=Z a:=by simp[pU]
def xi{a}{d}{b}{k m i}(f:i<Z a):I (pU a d b k m) i 0=if k<=i/\i<k+m then I a i 0+d*I b (i-k) 0 else I a i 0:=by unfold pU;rw[aO,ju,k7 f];rfl
def L8{a b:E L}(f:Z a=Z b)(g:∀i,i<Z a->I a i 0=I b i 0):a=b:=by
 refine v7 f λi d k=>?_
 have:=g i d;rwa[aO,df d,aO,df k]at this
def atN(a f b k):pU a f b k 0=a:=L8 (oY ..) λi d=>by rw[oY]at d;rw[xi d,y Y]
def atO(a b k):kS a 0 b k=a:=L8 (oY ..) λi d=>by
 unfold kS at*;rw[oY]at d;rw[xi d];split
 .rw[mF,nM]
 .rfl
def EO{l}{i}a(x:L)(b:i<Z l):(l.set i x).getD a 0=if i=a then x else I l a 0:=by
 rw[aO,Wj];by_cases e:i=a
 .subst e;rw[q J,q J,q b];rfl
 .rw[y e,y e,aO]
def atP{a}{d}{b}{k m}(l:k+m<Z a):(pU a d b k m).set (k+m) (I a (k+m) 0+d*I b m 0)=pU a d b k (m+1):=L8 (by rw[px,oY,oY]) λi f=>by
 rw[px,oY]at f;rw[EO _ _ (by rw[oY];exact l),xi f,xi f];by_cases e:k+m=i
 .subst e;rw[q J,q Y,Lb]
 .rw[y e];by_cases g:k<=i/\i<k+m
  .rw[q g,q Y]
  .rw[y g,y Y]
def atQ{d}{f}{b}{k m}(l:I b m 0=0):pU d f b k m=pU d f b k (m+1):=L8 (by rw[oY,oY]) λi a=>by
 rw[oY]at a;rw[xi a,xi a];by_cases e:i=k+m
 .subst e;rw[y Y,q Y,Lb,l,eh,nM]
 .by_cases g:k<=i/\i<k+m
  .rw[q g,q Y]
  .rw[y g,y Y]
def vD{a:L}(b:a.num=0):a=0:=Rat.num_eq_zero.1 b
def Ru{s}(H:s<=200000000000) f a b k(N:k+Z b<=Z f)(A:Z f<=1000)(B:∀i,QS s (I f i 0))(v:QS s a)(D:∀i,QS s (I b i 0)):
  wG O 119 [.c (.X 0),aQ a,e .q b,c k] 44 .q f (.t []) (kS f a b k):=by
 refine KI Tryz.func119 J J J J J S ?_
 refine U J<|h<|bQ J J (Yh a) J<|F J (λd=>?_)<|λd=>aE ?_
 .have d:gH a.num=0:=dw d;have d:a=0:=vD<|yC.1 d;subst d;rw[atO];exact bX<|cY<|BC cq J (bu.refl _) J
 refine U J ?_
 refine ay<|bq (α:=G) (λm=>⟨[(0,.c<|.X 0),(3,c k),(5,.c<|.P 1000000 0),(13,e .q b),(14,c<|Z b),(15,c m)],[(0,.vec 44 .q<|pU f a b k m),(1000000,.box 44 0<|av .q a)],4,[]⟩) (λm=>m<=Z b) (λm=>Z b-m) 0 (bg _) (wk (bK J) ⟨bE J ?_,bE J J,j⟩) ?_
 .rw[atN]
 intro m C
 refine U J<|h<|F J (λd=>?_)<|λd=>?_
 .have d:m<Z b:=by have d:(m:V)<(Z b:V):=aV d;omega
  have x:af ((m:V))=m:=cC m;have n:af ((m:V)+(k:V))=k+m:=Y;have p:=oY f a b k m;have z:I (pU f a b k m) (af<|(m:V)+(k:V)) 0=I f (k+m) 0:=by rw[n,xi Y,y Y]
  have l:QS s (I b (af<|(m:V)) 0):=D _;have u:QS (2*s) (I (pU f a b k m) (af<|(m:V)+(k:V)) 0):=by rw[z];exact(B _).le Y
  refine aE<|h<|ay<|U J<|bQ J J (Yh<|I b (af<|(m:V)) 0) J<|F J (λg=>?_)<|λg=>di ?_
  .refine cG (rc J J (Rp a (I b (af<|(m:V)) 0) v l Y) (rc J J (ahy _ _ u (v.mul l) Y)<|wF (I (pU f a b k m) (af<|(m:V)+(k:V)) 0+a*I b (af<|(m:V)) 0) J J J J J ?_ (M J ?_) (hp:=?_)) (hp:=?_))
   .show af ((m:V)+(k:V))<Z (pU f a b k m);rw[n,p];omega
   .refine bP<|rt J (hp:=aH)<|a4 (m+1) d (Y:Z b-(m+1)<Z b-m)<|wk (bK J) ⟨bE J ?_,bE J J,j⟩;show aA.vec 44 .q ((pU f a b k m).set (af<|(m:V)+(k:V))<|I (pU f a b k m) (af<|(m:V)+(k:V)) 0+a*I b (af<|(m:V)) 0)=_;rw[z,n,x,atP Y]
   .simp[Pr.an,Pr.h,num,ia];omega
   .simp[Pr.an,Pr.h,num,ia];omega
  .have g:gH (I b (af<|(m:V)) 0).num=0:=yj g;rw[x]at g;refine bP<|rt J (hp:=aH)<|a4 (m+1) d (Y:Z b-(m+1)<Z b-m)<|wk (bK J) ⟨bE J ?_,bE J J,j⟩;rw[atQ (vD<|yC.1 g)]
 .have d:m=Z b:=by have d:¬(m:V)<(Z b:V):=bc d;omega
  subst d;exact bs<|ael cq J (bu.refl _) J
def QS.zero{s}(b:1<=s):QS s 0:=⟨aJ.zero _,(aJ.one (a:=1) S).le b⟩
def QS.int{s}(b:1<=s){n}(f:aC n<4294967296):QS s (n:L):=⟨(aJ.one f).le b,(aJ.one (a:=1) S).le b⟩
def uq(b:L)(a:E L):E L:=a.map (b*·)
def ahB b a i:I (uq b a) i 0=b*I a i 0:=by
 unfold uq;rw[aO,ju,aO];cases a[i]? with
 |none=>show(0:L)=b*0;rw[eh]
 |some x=>rfl
def L9 n i:I (bx n (0:L)) i 0=0:=by rw[aO,nG];split<;>rfl
def atS b a:kS (bx (Z a) 0) b a 0=uq b a:=L8 (by rw[kS,oY,ig,uq,dj]) λi d=>by rw[kS,oY,ig]at d;rw[kS,xi (by rw[ig];exact d),q Y,L9,Ep,DY,ahB]
def Yl{s}(g:1<=s)(k:s<=200000000000) b a(f:Z a<=1000)(l:QS s b)(m:∀i,QS s (I a i 0)):w O 75 [aQ b,e .q a] (e .q<|gI<|uq b a):=by refine aK Tryz.func75 ?_;have d:=Ru k (bx (Z a) 0) b a 0 WO (by rw[ig];exact f) (λi=>by rw[L9];exact QS.zero g) l m;rw[atS]at d;exact U J<|R<|DV J J (Rt (Z a) f)<|M J<|R<|BD 1002000 J d J J<|M J<|dv 1002000 J J J<|bQ J J (L7 (uq b a) (by unfold uq;rw[dj];omega)) J<|cN J
def atT{s}(u:s<=200000000000) a(g:a≠[])(i:Z a<=1000)(k:I a (Z a-1) 0≠0)(f:QS s (I a (Z a-1) 0)):w O 151 [e .q a] (aQ (I a (Z a-1) 0)⁻¹):=by
 refine aK Tryz.func151 ?_;have v:=cF.2 g;have l:af ((Z a:V)-1)=Z a-1:=Y;have m:w O 115 [aQ (I a (af<|(Z a:V)-1) 0)] (.t [(ae,av .q (I a (Z a-1) 0)⁻¹),(ah,[.I .i64 0])]):=by rw[l];exact L4 _ (λp=>k<|vD p) (f.n.sm Y)<|f.d.sm Y
 refine U J<|h<|U J<|F J (λb=>?_)<|λb=>aE ?_
 .have b:(Z a:V)=0:=dw b;exact aF b Y
 refine R<|rc J J m (M J<|U J<|cN J) (hp:=aH)
def atU{s}(k:1<=s)(l:s<=200000000000) a(m:a≠[])(p:Z a<=1000)(u:I a (Z a-1) 0≠0)(f:∀i,QS s (I a i 0))(g:QS s (I a (Z a-1) 0)⁻¹):w O 114 [e .q a] (e .q<|gI<|uq (I a (Z a-1) 0)⁻¹ a):=by
 refine aK Tryz.func114 ?_;have v:=cF.2 m;have x:af ((Z a:V)-1)=Z a-1:=Y;have z:w O 115 [aQ (I a (af<|(Z a:V)-1) 0)] (.t [(ae,av .q (I a (Z a-1) 0)⁻¹),(ah,[.I .i64 0])]):=by rw[x];exact L4 _ (λA=>u<|vD A) ((f _).n.sm Y)<|(f _).d.sm Y
 refine U J<|h<|U J<|F J (λb=>?_)<|λb=>aE ?_
 .have b:(Z a:V)=0:=dw b;exact aF b Y
 refine R<|rc J J z (M J<|bQ J J (Yl k l _ a p g f) J<|cN J) (hp:=aH)
def QS.inv{s}{a}(g:QS s a)(i:a≠0):QS s a⁻¹ :=by
 have k:a.num≠0:=λe=>i<|vD e
 rw[ahx];have f:=PI (a.den:V) a.num k;have l:jl (a.den:V) a.num=1:=by rw[Int.gcd_comm];exact a.reduced
 rw[l]at f;by_cases b:a.num<0
 .rw[q b,show-(((1:G):V))= -1 from J,D8,wR,D8,wR]at f;exact⟨by rw[f.1];exact g.d.neg,by rw[f.2];exact g.n.neg⟩
 .rw[y b,show(((1:G):V))=1 from J,wR,wR]at f;exact⟨by rw[f.1];exact g.d,by rw[f.2];exact g.n⟩
def qB(a:E L):E L:=(bJ<|Z a-1).map λi=>(((i+1:G):V):L)*I a (i+1) 0
def Rv(a):Z (qB a)=Z a-1:=by simp[qB]
def ahC{a}{i}(b:i<Z a-1):I (qB a) i 0=(((i+1:G):V):L)*I a (i+1) 0:=by unfold qB;rw[aO,ju,k7 b];rfl
def Ci(a:E L)(b:G):E L:=a++bx (b-Z a) 0
def Rw{a}{b}(d:Z a<=b):Z (Ci a b)=b:=by simp[Ci];omega
def ahD a b i:I (Ci a b) i 0=I a i 0:=by
 unfold Ci;rw[aO,aO];by_cases h:i<Z a
 .rw[C6 h]
 .rw[C7 Y,iw (l:=a) Y,nG];split<;>rfl
def Ar(a:E L)(d:L)(b:E L):E L:=kS (Ci a<|max (Z a)<|Z b) d b 0
def atV{s}(B:1<=s)(n:s<=200000000000) a d b(D:Z a<=1000)(H:Z b<=1000)(p:0<max (Z a) (Z b))(t:∀i,QS s (I a i 0))(u:QS s d)(v:∀i,QS s (I b i 0)):w O 128 [e .q a,aQ d,e .q b,c 0] (e .q<|gI<|Ar a d b):=by
 refine aK Tryz.func128 ?_;generalize hM:max (Z a) (Z b)=f at*;have g:f<=1000:=Y;have k:=Ru n (Ci a f) d b 0 (by rw[Rw Y];omega) (by rw[Rw Y];exact g) (λi=>by rw[ahD];exact t i) u v;have l:Ar a d b=kS (Ci a f) d b 0:=by rw[Ar,hM]
 rw[<-l]at k;have A:(if(Z b:V)+0>(Z a:V)then(Z b:V)+0 else(Z a:V))=(f:V):=by split<;>omega
 have m:qq O 118 [c (if(Z b:V)+0>(Z a:V)then(Z b:V)+0 else(Z a:V))] 44 .q (bx f 0):=by rw[A];exact Rt f g
 refine U J<|R<|DV J J m<|M J<|R<|Ps J J J J J WO (λl=>by have:=bm Z l;rw[ig]at this;simp at this;omega)<|M J ?_;rw[Ym];change TR _ _ _ ⟨_,(_,.vec 44 .q<|Ci a f)::_,_,_⟩ _;exact R<|BD 1007000 J k J J<|M J<|dv 1007000 J J J<|bQ J J (L7 (Ar a d b) (by rw[Ar,kS,oY,hM,Rw Y];omega)) J<|cN J
def atW{s}(g:1<=s)(l:s<=200000000000) a b(m:Z a<=1000)(n:Z b<=1000)(f:0<max (Z a) (Z b))(p:∀i,QS s (I a i 0))(t:∀i,QS s (I b i 0)):w O 74 [e .q a,e .q b] (e .q<|gI<|Ar a (-1) b):=by refine aK Tryz.func74 ?_;have k:=If (-1) S S;have d:=atV g l a (((-1:V)):L) b m n f p (QS.int g S) t;rw[show(((-1:V)):L)= -1 from J]at d k;exact U J<|R<|rc J J k<|rc J J d<|M J<|cN J
section
variable{P:bW}{tt:E (G×TI)}
def atX(cK:cE P tt=ae){n N}{Q}{i}{aG:a8}(ho:Q[i]? =ad aG)(hg:aG.guard=none){d:G}(hd:aG.dst=ad d)(dG:d<n){x p}{t1 t2}(b9:aG.op= .call ⟨.builtin .copy,#[x,p],#[t1,t2]⟩)
 {f}{t}{bt E1:eI} {T}{ei:TI} (hx:f.ev x=ad (.c<|.X t)) (hl:o t f.mem=ad (.vec bt T [])) (hy:f.ev p=ad (.c<|.S T [])) (D:Bk tt t1 t2=ad (E1,ei)) (uQ:ei.size=T.n):
  mZ P n Q i f (f.put d<|.c<|.I .i64 0) N (bN [x,p]++da [t],[.s d]):=by
 refine⟨(cQ f x++cQ f p)++fZ f [t],[(.s d,ad<|.v<|.c<|.I .i64 0)],?_,?_,qR f d _,?_,λk hk=>kV⟩
 .refine uO ho hg hd dG _ _ N ?_;intro F r σ g W a l C;have D:=N' cK D;rw[uQ]at D;have w:a.eval x=g.γ t:=dY l f x _ hx<|λH cy=>C H e9;have M:σ (.m t)=ad (.b<|.vec bt T ([]:E T.den)):=C (.m t,.b<|.vec bt T []) sb;let ⟨e2,jN⟩:=D.u2;let ⟨inf,z,A,B,U,zh,v8⟩:=D.info;let ⟨us,u,O,tL,zm⟩:=Dq (P:=P) (st:=f) (sz:=T.n) (y:= .c<|.S T []) (m:=0) (cs:=[]) (ids:=[]) l (by simp[we]) (dY l f p _ hy<|λH cy=>C H e9) (λt aY=>yX) jN J;have R:us=[]:=O;subst R;refine⟨λj hj=>(by cases hj),(.int .i64 0:Value),?_,J⟩;have q:(ahE #[t1,t2] aG.type #[a.eval x,a.eval p]).run P W= .ok (.int .i64 0) W:=by
   rw[w];have V:=u.cells;rcases l.cM t _ M with⟨K,_⟩|⟨b,cap,vs,K,hh,Bd,Y,Z,hr,hN,hz⟩
   .rw[K];simp[ahE,run_underlying D.u1,sizeOf,typeInfo,A,u.len,B,V,goInt,Sem.run,pure]
   .rw[K];simp[ahE,run_underlying D.u1,sizeOf,typeInfo,A,u.len,B,V,goInt,Sem.run,pure,storeCells]
  refine Gk b9<|λcs=>?_;have e:(#[x,p]:Array Operand).map a.eval= #[a.eval x,a.eval p]:=au;rw[e];simp only[Go.builtin,Sem.run_bind,q,Result.andThen];rfl
 .intro H cy;rcases bl.1 cy with h|h
  .rcases bl.1 h with h|h
   .exact eQ _ x H h
   .exact eQ _ p H h
  .exact ly _ [t] H h
 .intro k hk;simp only[dL,gf,bl]at hk;rcases hk with(h|h)|h
  .exact eT _<|ff f [x,p] k uV
  .exact eT _<|ff f [x,p] k xH
  .exact gO _<|kE f [t] k h
end
section
variable{n:G}{sl sl':E (G×AV)}{mem bT:E (G×aA)}{nx:G}{gd gd':E (G×Bool)}{ops:Array a8}{draw:Bool}{p:Pr}{ks dC:E Ks}{i i' n0 cw:G}{os dR:E a8}{d:G}{ty:eI}{pos:String}{iF:Array Edge}{R:St->Prop}
def atY{x a}{k l}{b}{u v:eI}{T}{m}(z:runs dM n nx draw ops.toList os i ⟨sl,mem,n0,gd⟩ .t ks=(⟨ad d,.call ⟨.builtin .copy,#[x,a],#[k,l]⟩,ty,pos,iF,none⟩::dR,i',⟨sl',bT,cw,gd'⟩,p,dC))
  (A:St.ev ⟨sl',bT,cw,gd'⟩ x=ad (.c<|.X b)) (B:o b bT=ad (.vec u T [])) (D:St.ev ⟨sl',bT,cw,gd'⟩ a=ad (.c<|.S T [])) (H:Bk dM k l=ad (v,m))
  (N:RG O n ops draw nx (i'+1) dR ⟨(d,.c<|.I .i64 0)::sl',bT,cw,gd'⟩ (ix draw dC (bN [x,a]++da [b],[.s d])) R) (f:m.size=T.n:=by rfl)
  (P:p:=by exact m5) (g:dZ d n=ae:=by rfl):RG O n ops draw nx i os ⟨sl,mem,n0,gd⟩ ks R:=
 jO cq z P (nv (λC=>atX cq C J J (c7 g) J A B D H f)<|nw N)
end
def eF(inv:L)(a b:E L)(n m:G):G->E L×E L
 |0=>(bx m 0,a)
 |d+1=>((eF inv a b n m d).1.set (m-1-d)<|(eF inv a b n m d).2.getD (m-1-d+n) 0*inv,kS (eF inv a b n m d).2 (-((eF inv a b n m d).2.getD (m-1-d+n) 0*inv)) b<|m-1-d)
def As(inv a b n m):∀d,(eF inv a b n m d).1.length=m/\(eF inv a b n m d).2.length=Z a
 |0=>⟨ig,J⟩
 |d+1=>by let ⟨f,h2⟩:=As inv a b n m d;exact⟨by rw[eF,px,f],by rw[eF,kS,oY,h2]⟩
def atZ{s}(h1:1<=s)(hs:s<=100000000000) a b n m(hn:Z b=n+1)(hm:Z a=n+m)(Ke:0<m)(la:Z a<=1000)(x:I b n 0≠0)(N:∀i,QS s (I b i 0))(hS:∀f,f<=m->∀i,QS s ((eF (I b n 0)⁻¹ a b n m f).2.getD i 0)):
  w O 65 [e .q a,e .q b] (.t [(ah,[.S .q (gI (eF (I b n 0)⁻¹ a b n m m).1)]),(ah,[.S .q (gI<|(eF (I b n 0)⁻¹ a b n m m).2.take n)]),(ah,[.I .i64 0])]):=by
 refine aK Tryz.func65 ?_
 refine U J<|h<|U J<|F J (λk=>?_)<|λk=>aE ?_
 .have k:(Z b:V)=0:=dw k;exact aF k Y
 refine R<|rm ZZ (Z a) J J J J J J VV J ?_ ?_<|M J ?_
 .show Z a*64<=_;omega
 .show Z a*4<=_;omega
 refine fq (st':=⟨[(0,.c<|.S ZZ<|a.map qz),(1,e .q b),(7,.c<|.X 2002000)],[(2002000,.vec 44 ZZ<|bx (Z a) (0,0))],3,[]⟩) (wk ⟨⟨_,J,ahA a⟩,sR J,sR J,j⟩ ⟨bR J,j⟩) ?_
 refine R<|Ps J J J J J (by rw[ig,dj];omega) (λz=>by have:=bm Z z;rw[ig,qT]at this;omega)<|M J ?_
 have L:Yn qz a++az (Z<|Yn qz a) (bx (Z a) ((0,0):V×V))=a.map qz:=by rw[dj,Ym,kg,Gf,ji]
 refine fq (st':=⟨[(0,.c<|.S ZZ<|a.map qz),(1,e .q b),(7,.c<|.X 2002000)],[(2002000,.vec 44 .q a)],4,[]⟩) (wk (bK J) ⟨⟨_,J,by rw[L];exact Rq 44 a⟩,j⟩) ?_
 refine U J<|h<|U J<|F J (λk=>?_)<|λk=>aE ?_
 .have k:(Z (a.map qz):V)<=(Z b:V)-1:=aV k;rw[dj]at k;exact aF k Y
 have e1:af ((Z b:V)-1)=n:=Y
 have hi:w O 115 [aQ (I b (af<|(Z b:V)-1) 0)] (.t [(ae,av .q (I b n 0)⁻¹),(ah,[.I .i64 0])]):=by rw[e1];exact L4 _ (λz=>x<|vD z) ((N _).n.sm Y)<|(N _).d.sm Y
 have A:QS s (I b n 0)⁻¹ :=(N n).inv x
 generalize (I b n 0)⁻¹ =inv at*
 have ez:(Z (a.map qz):V)-((Z b:V)-1)=(m:V):=by rw[dj];omega
 have hz:qq O 118 [c ((Z (a.map qz):V)-((Z b:V)-1))] 44 .q (bx m 0):=by rw[ez];exact Rt m Y
 refine R<|rc J J hi (M J<|R<|DV J J hz<|M J ?_) (hp:=aH)
 refine h<|U J ?_
 rw[ig]
 refine ay<|bq (α:=G) (λf=>⟨[(1,e .q b),(7,.c<|.X 2002000),(8,c n),(9,.c<|.P 6008000 0),(11,.c<|.X 7004000),(12,c<|(m:V)-1-f)],[(7004000,.vec 44 .q (eF inv a b n m f).1),(6008000,.box 44 0<|av .q inv),(2002000,.vec 44 .q (eF inv a b n m f).2)],9,[]⟩) (λf=>f<=m) (λf=>m-f) 0 (bg _) (wk ⟨sR J,sR J,sE J ?_,sR J,sR J,sE J ?_,j⟩ ⟨bR J,bE J J,bR J,j⟩) ?_
 .exact jQ (Y:(Z b:V)-1=(n:V))
 .exact jQ (Y:(m:V)-1=(m:V)-1-((0:G):V))
 intro f hj
 let ⟨hq,hr⟩:=(As inv a b n m) f
 have l:=hS f hj
 have v:eF inv a b n m (f+1)=((eF inv a b n m f).1.set (m-1-f)<|(eF inv a b n m f).2.getD (m-1-f+n) 0*inv,kS (eF inv a b n m f).2 (-((eF inv a b n m f).2.getD (m-1-f+n) 0*inv)) b<|m-1-f):=rfl
 refine h<|U J<|F J (λp=>?_)<|λp=>?_
 .have p:f<m:=by have p:(m:V)-1-f>=0:=aV p;omega
  generalize eF inv a b n m f=S at*;let ⟨K,u⟩:=S;simp only at hq hr l v;have f1:af ((m:V)-1-f)=m-1-f:=Y;have f2:af ((m:V)-1-f+n)=m-1-f+n:=Y;have g:=Rp (I u (af<|(m:V)-1-f+n) 0) inv (l _) A Y;have E:QS (2*s) (I u (m-1-f+n) 0*inv):=(l _).mul A;generalize C:I u (m-1-f+n) 0*inv=t at*;have g:w O 72 [aQ (I u (af<|(m:V)-1-f+n) 0),aQ inv] (aQ t):=by
   have z:I u (af<|(m:V)-1-f+n) 0*inv=t:=by rw[f2];exact C
   rwa[z]at g
  have Q:(K.set (af<|(m:V)-1-f) t).getD (af<|(m:V)-1-f) 0=t:=by rw[EO _ _ Y,q J]
  have D:w O 71 [aQ ((K.set (af<|(m:V)-1-f) t).getD (af<|(m:V)-1-f) 0)] (aQ<| -t):=by rw[Q];exact ahw t<|E.n.sm Y
  have H:wG O 119 [.c (.X 0),aQ<| -t,e .q b,c<|(m:V)-1-f] 44 .q u (.t []) (kS u (-t) b<|m-1-f):=by rw[(Y:(m:V)-1-f=((m-1-f:G):V))];exact Ru (s:=2*s) Y u (-t) b (m-1-f) Y Y (λi=>(l i).le Y) E.neg<|λi=>(N i).le Y
  refine di<|aS<|h<|ay<|R<|rc J J g<|wF (T:= .q) t J J J J J ?_ (M J (cG<|rc J J D<|BD 2002000 J H J J (M J<|bP<|rt J (hp:=aH)<|a4 (f+1) p (Y:m-(f+1)<m-f)<|wk ⟨sR J,sR J,sR J,sR J,sR J,sE J<|jQ (Y:(m:V)-1-f-1=(m:V)-1-((f+1:G):V)),j⟩ ⟨bE J ?_,bR J,bE J ?_,j⟩) (hp:=?_)) (hp:=?_)) (hp:=?_)
  .show af ((m:V)-1-f)<Z K;omega
  .rw[v,f1]
  .rw[v]
  .simp[Pr.an,Pr.h,num,ia];first|done|omega
  .simp[Pr.an,Pr.h,num,ia];first|done|omega
  .show 0<=(m:V)-1-f/\(m:V)-1-f<(Z K:V);omega
 .have p:f=m:=by have p:¬(m:V)-1-f>=0:=bc p;omega
  subst p;refine bs<|aS<|dv 7004000 J J J<|dv 2002000 J J J ?_;exact R<|rc J J (L7 (eF inv a b n f f).1 Y)<|rc J J (L7 (r n (eF inv a b n f f).2) K7) (M J<|cN J) (hp:=aH)
def Yo T a:bu (.t<|(ah,[.V (.slice none 0 0)])::a) (.t<|(ah,[.S T []])::a):=by
 refine⟨λg v h=>?_,λi h=>?_⟩
 .let ⟨vs,e,h⟩:=h;obtain⟨b,r,rfl,d,f⟩:=h;exact⟨_,e,_,_,J,(bu.nil T).1 g b d,f⟩
 .simpa[AV.ak,et,b6,C.ak]using h
def at0(a b:E L)(g:Z a<Z b)(n:Z b<=1000):
  w O 65 [e .q a,e .q b] (.t [(ah,[.S .q []]),(ah,[.S .q a]),(ah,[.I .i64 0])]):=by
 refine aK Tryz.func65 ?_
 refine U J<|h<|U J<|F J (λd=>?_)<|λd=>aE ?_
 .have d:(Z b:V)=0:=dw d;exact aF d Y
 refine R<|rm ZZ (Z a) J J J J J J VV J ?_ ?_<|M J ?_
 .show Z a*64<=_;omega
 .show Z a*4<=_;omega
 refine fq (st':=⟨[(0,.c<|.S ZZ<|a.map qz),(1,e .q b),(7,.c<|.X 2002000)],[(2002000,.vec 44 ZZ<|bx (Z a) (0,0))],3,[]⟩) (wk ⟨⟨_,J,ahA a⟩,sR J,sR J,j⟩ ⟨bR J,j⟩) ?_
 refine kp ⟨[(0,.c<|.S ZZ<|a.map qz),(1,e .q b),(7,.c<|.X 2002000)],[(2002000,.vec 44 .q a)],4,[]⟩ ?_<|λf=>?_
 .refine U J (h<|U J<|F J (λd=>(dv 2002000 J J J<|U J<|bX<|cY<|iX cq J<|Yo _ _))<|λd=>?_)
  .have d:¬(Z (a.map qz):V)<=(Z b:V)-1:=bc d;rw[dj]at d;exact aF g Y
 .by_cases i:a=[]
  .subst i;exact cG<|atY J J J J J<|M J<|eD f<|wk (bK J) ⟨⟨_,J,Rq 44 []⟩,j⟩
  .have k:=cF.2 i;have l:Yn qz a++az (Z<|Yn qz a) (bx (Z a) ((0,0):V×V))=a.map qz:=by rw[dj,Ym,kg,Gf,ji]
   refine cG<|Ps J J J J J (by rw[ig,dj];omega) (λm=>by have:=bm Z m;rw[ig,qT]at this;omega)<|M J<|eD f<|wk (bK J) ⟨⟨_,J,by rw[l];exact Rq 44 a⟩,j⟩
def at1{l}{k}t(a:k<Z l)(b:I l k 0=0):Rx.zx (l.set k t)=Rx.zx l+Rx.K (t:L)*Rx.X k:=Rx.ext λi=>by
 rw[Rx.ef,Rx.du,Rx.rH,Rx.mL,Rx.mL,wQ _ _ _ _ a];by_cases e:k=i
 .subst e;rw[q J,q J,b,ahF];grind
 .rw[y e,y<|λa=>e a.symm];grind
section
variable{P:bW}{tt:TT}
def Ry{n}{a}{g}{z i}{A}{B}{D m:St}{ks}{k}{Q:St->Prop}{u}{v}
  (hs:a[i]? =ad A->uL P n a i u v (r8 (λi=>1000000*z+1000*i) i)) (H:∀p∈u,D.kn p.1=ad p.2) (s:m.kn=bw D.kn v) (N:∀x∈dL u,x∈k.1) (T:∀x∈gw v,x∈k.2) (cA:RG P n a g z (i+1) B m (ks++[k]) Q):RG P n a g z i (A::B) D ks Q:=by
 intro b
 have r:a[i]? =ad A:=by have:=bm (λl=>l[0]?) b;simpa[uS]using this
 have d:az (i+1) a.toList=B:=by rw[<-se,b];rfl
 have C:=hs r
 let ⟨ds,K,hl,w,h2,y,E,W,F,G⟩:=cA d
 refine⟨(u,v)::ds,K,by simp[hl],?_,?_,?_,E,W,?_,G⟩
 .intro j hj;cases j with
  |zero=>simpa using C
  |succ j=>
   have:=w j qh
   rw[(Y:i+(j+1)=i+1+j)]
   simpa using this
 .intro j hj p f;cases j with
  |zero=>simp[xC]at f;simpa[qU]using H p f
  |succ j=>
   simp[C2]at f
   have:=h2 j qh p f
   rw[s]at this
   simpa[qU]using this
 .rw[y,s];simp[qU]
 .intro I;let ⟨X,⟨c,e⟩,t⟩:=F I;refine⟨k::X,⟨by simp[c],λj hj q=>?_⟩,by rwa[nt,List.singleton_append]at t⟩;cases j with
  |zero=>exact⟨N,T⟩
  |succ j=>simpa using e j qh (by simpa using q)
def at2{n c1 k k'}{u}{i}{x:a8}(ho:u[i]? =ad x)(hg:x.guard=none){d:G}(hd:x.dst=ad d)(dG:d<n){f}{args}{D}(H:x.op= .call ⟨.value<|.func f,args,D⟩)
 {N}{vs}{T:AV} {p:E (G×aA)} (hv:kF N args.toList=ad vs) (hm:cX vs=[]) (hf:CX P f vs [] k T p k') (z:k'<=c1) (JR:∀l∈T.ak,k<=l) (wm:∀l b,o l p=ad b->∀gT∈b.ak,k<=gT):
  uL P n u i (args.toList.flatMap<|cQ N) ((.s d,ad<|.v T)::kX k p) (λl=>k<=l/\l<c1):=by
 intro F lM Q C U g W a K A aX X y
 have c:=Db aX N _ _ hv X
 have q:d<a.tmps.size:=nX
 have I:=Up hf (λl aY=>AZ) (λl b h=>by simp[o]at h) (λl aY=> .inl<|JR l aY) (λl b h=> .inr λgT J=> .inl<|wm l b h gT J) aX (λl aY=>A l ⟨aY.1,gK aY.2 z⟩) c (λl aY=>AZ) (λl b h=>by simp[o]at h) q
 unfold wpOp
 simp[ho,Region.wanted,hg,cz]
 refine .inl ?_
 unfold Oper.wp
 have w:(execOp a.eval x).run P W= .ok (.enter f<|args.map a.eval) W:=by
  have m:=hf.call;unfold oI at m;rw[execOp,H];cases t:P.funcs[f]? with
  |none=>rw[t]at m;simp at m
  |some fn=>
   rw[t]at m
   simp[bne_iff_ne,ne_eq]at m
   have L:fn.body≠none:=by intro M;rw[M]at m;simp at m
   simp[resolve,Act.eval,zs,invoke,callFunc,t,m.1,L]
 rw[w]
 simp[Oper.upon]
 have B:(args.map a.eval)=(args.toList.map a.eval).toArray:=A6
 rw[B]
 refine I.mono ?_
 rintro e O ⟨v,R,rfl,S⟩
 simp[hd]
 refine y R O _<|S.weaken<|λl aY=>?_
 rcases aY with aY|aY
 .exact .inl aY
 .exact .inr ⟨aY.1,gK aY.2 z⟩
def ahG(P:bW)(d:Func)(f:AV):iD:=λF e a W=>(∀b,¬F.own b)->bodyPostM (dP none) 0 P d (NA F.w0 F.H0 f) e a W
def Yq{n}{z}(m:cE P tt=ae){p}{A}{D l}(N:mc tt z A=ad D)(s:bu D l)(t:p.results=A.toArray:=by rfl)(Q:l.ak=[]:=by rfl):iY n .ret z OM (ahG P p l):=by intro F q C w g W a h K f;obtain⟨_,_,mk,rfl,v,x⟩:=K;have T:a.defers=mk.map kK:=h.defers;show LeavesInM (dP none) 0 P p a.tmps (NA F.w0 F.H0 l) a.defers .returning W;rw[T];refine VU (B:=F.w0.heap.size) mk W v x ?_;intro X c;have d:=h.wx (W':=X) c;let ⟨u,hu,i⟩:=A' (P:=P) m d t N;exact⟨u,hu,u,g.H,J,(s.1 _ _ i).jh Q (cL.refl _) jP,d.le,λb o e=>d.fresh b o e<|f b,d.sub,⟨d.below.os,d.below.tape,d.below.output,d.below.size,λk j=>d.below.block k j<|f k⟩⟩
def ahH{n nx}{f}{g}{T}{args}{B}(hf:P.funcs[f]? =ad g)(hb:g.body=ad T)(hN:g.ntmps=n)(i:fa args.length n=ae)(N:cX args=[])(Q:B.ak=[])(qY:(g.name != "runtime.NumGoroutine")=ae)
  (l:TJ P n T ⟨dT 0 args,[],nx,[]⟩ OM (ahG P g B)):w P f args B:=by
 refine⟨zc,Q,?_⟩
 intro H W vs p d
 refine callsIn_wide.1<|callsIn_of_wp_marks (n:=0) (F:=dP none) hf hb j ?_
 have K:=xL d
 have i:=c7 i
 refine wpIn_mono (F:=dP none) (l {w0:=W,H0:=H,n:=n} rfl (bg _) (.inl J) [] ⟨H,jP⟩ W _ ⟨?_,J,?_,?_,?_,?_,?_,p,⟨J,J,J,aL _,λ_ _ _=>rfl⟩,cL.refl _,λ_ _ _ _=>rfl,λ_ l=>aF l<|nZ _⟩ ⟨J,J,[],J,λD q=>(by cases q),List.nodup_nil⟩)<|λe a M E=>E<|λ_ l=>l
 .simp[hN,dO.dr];omega
 .intro t v X;simp only[St.kn,bY]at X;let ⟨x,hx,he⟩:=X;cases he;let ⟨_,u,hu,hr,_⟩:=me args vs 0 d t v hx;have z:vs[t]? =ad u:=v3;have jK:t<Z vs:=(qQ.1 z).1;have:(vs.toArray++sD (g.ntmps-vs.toArray.size) undef).getD t undef=u:=by rw[l7,uW zd];simp[z]
  rw[this];exact hr
 .intro A b e;simp[St.kn,o]at e
 .intro A G b O k e;simp[St.kn,o]at e
 .intro k x e A C;cases k with
  |m R=>simp[St.kn,o]at e
  |s t=>
   simp only[St.kn,bY]at e
   let ⟨y,I,he⟩:=e
   subst he
   let ⟨_,u,_,_,L⟩:=me args vs 0 d t y I
   have:=L A C
   rw[N]at this
   cases this
 .intro A x e;simp[St.kn,o]at e
end
def L'(g:Gh)(fm:E (G×aA))(b:G):Prop:=∃a d,o a fm=ad d/\cO (g.γ a)=ad b
def at3(g:Gh)(W:World)(fm:E (G×aA))(f:AV)(i:Ending)(d:World):Prop:=
 ∃v a,i= .returned v/\bh ⟨a,jP⟩ f v/\cL g.H a/\(∀b o,b<W.heap.size->¬L' g fm b->a b o=g.H b o)/\Sub a d/\Fz (L' g fm) W d
structure Rz(P:bW)(f:FuncId)(args:E AV)(fm:E (G×aA))(r:AV):Prop where
 call:oI P f=ae
 jh:r.ak=[]
 spec:∀g W vs,Sub g.H W->fV g args vs->(∀d b,o d fm=ad b->gW (λ_=>True) g W d b)->(∀d a b i k,o d fm=ad b->o a fm=ad i->cO (g.γ d)=ad k->cO (g.γ a)=ad k->d=a)->Calls P f vs.toArray W (at3 g W fm r)
def ahI(P:bW)(g:Func)(i:AV):iD:=λF e a W=>bodyPost P g (λe f=>∃v d,e= .returned v/\bh ⟨d,jP⟩ i v/\cL F.H0 d/\(∀b o,b<F.w0.heap.size->¬F.own b->d b o=F.H0 b o)/\Sub d f/\Fz F.own F.w0 f) e a W
section
variable{P:bW}{tt:TT}{n:G}{st:St}
def ahJ(d:cE P tt=ae){l}{m}{p f}(s:mc tt st m=ad p)(i:bu p f)(k:l.results=m.toArray:=by rfl)(t:f.ak=[]:=by rfl):gy n .ret st (ahI P l f):=by intro F v g W a h;let ⟨u,hu,b⟩:=A' d h k s;exact⟨h.defers.trans v.ds,u,hu,u,g.H,J,(i.1 _ _ b).jh t (cL.refl _) jP,h.le,h.fresh,h.sub,h.below⟩
def at4{f}{z}{dU}{args}{fm}{a7}p(hf:P.funcs[f]? =ad z)(hb:z.body=ad dU)(hN:z.ntmps=n)(A:fa args.length n=ae)(wH:∀d∈cX args,d<1000000*p)(B:yB (1000000*p) fm)(BB:a7.ak=[])(qY:(z.name != "runtime.NumGoroutine")=ae)
  (cA:TR P n dU ⟨dT 0 args,fm,p,[]⟩ (ahI P z a7)):Rz P f args fm a7:=by
 refine⟨zc,BB,?_⟩
 intro g W vs C l D K
 refine calls_of_wp hf hb ?_
 have q:=xL l
 have A:=c7 A
 have i:∀d b,St.kn ⟨dT 0 args,fm,p,[]⟩ (.m d)=ad (.b b)->o d fm=ad b:=by intro d b e;simp only[St.kn,bY]at e;let ⟨x,hx,he⟩:=e;cases he;exact hx
 let F:dO:={w0:=W,H0:=g.H,n:=n,own:=L' g fm,k0:=0}
 refine wp_mono (cA F ⟨J,bg _,J,J⟩ g W _ ⟨?_,J,?_,?_,?_,?_,?_,C,⟨J,J,J,aL _,λ_ _ _=>rfl⟩,cL.refl _,λ_ _ _ _=>rfl,λ_ cA=>aF cA<|nZ _⟩)<|λe a S G=>G
 .simp[hN,F];omega
 .intro t v w;simp only[St.kn,bY]at w;let ⟨x,hx,he⟩:=w;cases he;let ⟨_,u,hu,hr,_⟩:=me args vs 0 l t v hx;have N:vs[t]? =ad u:=v3;have jK:t<Z vs:=(qQ.1 N).1;have:(vs.toArray++sD (z.ntmps-vs.toArray.size) undef).getD t undef=u:=by rw[l7,uW zd];simp[N]
  rw[this];exact hr
 .intro d b e;have X:=i d b e;exact(D d b X).Bi (λk I=> .inr ⟨d,b,X,I⟩) J J ⟨cL.refl _,λ_ _=>rfl⟩
 .intro d Q b E k e X L M;exact K d Q b E k (i d b e) (i Q E X) L M
 .intro k x e d T;cases k with
  |m j=>
   cases x with
   |v y=>simp only[St.kn,bY]at e;let ⟨_,_,he⟩:=e;cases he
   |b b=>exact(B j b<|i j b e).2 d T
  |s t=>
   simp only[St.kn,bY]at e
   let ⟨y,O,he⟩:=e
   subst he
   let ⟨_,u,_,_,R⟩:=me args vs 0 l t y O
   exact wH d<|R d T
 .intro d x e;cases x with
  |v y=>simp only[St.kn,bY]at e;let ⟨_,_,he⟩:=e;cases he
  |b b=>exact(B d b<|i d b e).1
def RA{d:Type}{f:G}{b:d}:∀{l:E (G×d)},o f l=ad b->f∈l.map (·.1)
 |[],a=>by simp[o]at a
 | (i,x)::l,a=>by
  simp[o]at a;split at a
  next g=>simp[g]
  .exact ls _<|RA a
def ahK{f:Type}{d:G}:∀{l:E (G×f)},d∈l.map (·.1)->∃b,o d l=ad b
 |[],a=>by cases a
 | (i,x)::l,a=>by
  simp[o];split
  .exact⟨x,J⟩
  .rename_i g;rcases b7.1 a with a|a
   .exact aF a.symm g
   .exact ahK a
def EP(l:E G):∀k,aD (l.map λa=>((.m a:Key),(none:Option Info))) k=(match k with| .m a=>if a∈l then ad none else none| .s _=>none):=by
 induction l with
 |nil=>intro k;cases k<;>simp[aD]
 |cons x l b=>
  intro k
  simp[gX,aD]
  cases k with
  |s t=>simp[b]
  |m a=>
   by_cases e:x=a
   .subst e;simp
   .simp[e,b8,b];have:¬a=x:=λh=>e h.symm
    simp[this]
def at5{n new}{ops}{i}{aG:a8}(ho:ops[i]? =ad aG)(hg:aG.guard=none){d:G}(hd:aG.dst=ad d)(dG:d<n){f}{args}{kH}(b9:aG.op= .call ⟨.value<|.func f,args,kH⟩)
 {sl}{p fm}{nx:G} {gd:E (G×Bool)} {vs:E AV} {a7:AV} (hv:kF ⟨sl,p++fm,nx,gd⟩ args.toList=ad vs) (hf:Rz P f vs fm a7) (ahL:∀l b,o l fm=ad b->o l p=none):
  mZ P n ops i ⟨sl,p++fm,nx,gd⟩ ⟨(d,a7)::sl,p,nx,gd⟩ new (bN args.toList++da (fm.map (·.1)),.s d::(fm.map (·.1)).map .m):=by
 have S:∀l b,o l fm=ad b->o l (p++fm)=ad b:=λl b z=>by rw[Q4,ahL l b z,z];rfl
 refine⟨args.toList.flatMap (cQ ⟨sl,p++fm,nx,gd⟩)++fZ ⟨sl,p++fm,nx,gd⟩ (fm.map (·.1)),(.s d,ad<|.v a7)::(fm.map (·.1)).map (λl=>(.m l,none)),?_,?_,?_,?_,?_⟩
 .intro F lM Q known σ g W a K IW aX Z hK;have L:∀l b,o l fm=ad b->σ (.m l)=ad (.b b):=λl b z=>(zk (st:=⟨sl,p++fm,nx,gd⟩) (ids:=fm.map (·.1)) (σ:=σ)<|λY B=>Z Y<|gO _ B) l (RA z) b (S l b z)
  unfold wpOp;simp only[ho,Region.wanted,hg,cz];refine .inl ?_;unfold Oper.wp;have wH:args.map a.eval=(args.toList.map a.eval).toArray:=A6;have hex:(execOp a.eval aG).run P W= .ok (.enter f (args.toList.map a.eval).toArray) W:=by
   have D:=hf.call;unfold oI at D;rw[execOp,b9];cases V:P.funcs[f]? with
   |none=>rw[V]at D;simp at D
   |some fn=>
    rw[V]at D
    simp only[cP,bne_iff_ne,ne_eq]at D
    have I:fn.body≠none:=by intro z;rw[z]at D;simp at D
    simp[resolve,Act.eval,zs,invoke,callFunc,V,D.1,I]
    exact wH
  rw[hex];simp only[Oper.upon];refine (hf.spec g W _ aX.sub (Db aX _ _ _ hv<|λY B=>Z Y<|eT _ B) (λl b z=>(aX.cM l b<|L l b z).Bi (λ_ _=>trivial) J J ⟨cL.refl _,λ_ _=>rfl⟩)<|λl qi b b' k C I h3 h4=>aX.inj l qi b b' k (L l b C) (L qi b' I) h3 h4).mono ?_;rintro e W' ⟨v,H',rfl,zz,hle,xM,qZ,X⟩;simp only[hd];have iu:d<a.tmps.size:=nX;have O:gN (λ_=>True) g ⟨H',g.γ⟩:=⟨hle,λ_ _=>rfl⟩;have hN:∀b,L' g fm b->F.N b:=by rintro b ⟨l,bb,C,I⟩;exact((aX.cM l bb<|L l bb C).block I).1
  have hM:∀A b,bw σ ((.s d,ad<|.v a7)::(fm.map (·.1)).map (λl=>(.m l,none))) (.m A)=ad (.b b)->σ (.m A)=ad (.b b)/\∀k,cO (g.γ A)=ad k->¬L' g fm k:=by
   intro A b z;simp only[bw,aD,reduceCtorEq,b8,EP]at z;by_cases e:A∈fm.map (·.1)
   .rw[q e]at z;cases z
   .rw[y e]at z;refine⟨z,λk H=>?_⟩;rintro⟨l,bb,C,I⟩;have:=aX.inj A l b bb k z (L l bb C) H I;subst this;exact e<|RA C
  refine hK ⟨H',g.γ⟩ W' _ ⟨by simp[Act.put,aX.size],aX.defers,?_,?_,?_,?_,?_,qZ,?_,aX.le.trans hle,?_,λl c=>⟨.inl (aX.fT l c).1,(aX.fT l c).2⟩⟩
  .intro t u ht;simp only[bw,aD,EP]at ht;by_cases e:d=t
   .subst e;simp only[cz,aq,Info.v.injEq]at ht;subst ht;have:=zz.jh hf.jh (cL.refl _) g.γ;simpa[Act.put,iu]using this
   .have e':¬(Key.s d=Key.s t):=λh=>e fg
    simp only[e',b8]at ht;have hv:(a.put (ad d) v).tmps.getD t undef=a.tmps.getD t undef:=by simp[Act.put,l0 e]
    rw[hv];exact bh.mono O (λ_ _=>trivial)<|aX.dW t u ht
  .intro A b z;let ⟨C,I⟩:=hM A b z;have R:=aX.cM A b C;refine R.wj O j (λ_ _=>trivial)<|λk H=>?_;have w:=(R.block H).2;exact⟨X.block k w<|I k H,λaG=>xM k aG w<|I k H⟩
  .intro A j' b b' k z nq C I;exact aX.inj A j' b b' k (hM A b z).1 (hM j' b' nq).1 C I
  .intro k x T l c;cases k with
   |s t=>
    simp only[bw,aD,EP]at T
    by_cases e:d=t
    .subst e;simp only[cz,aq]at T;subst T;have:l∈a7.ak:=c;rw[hf.jh]at this;cases this
    .have e':¬(Key.s d=Key.s t):=λh=>e fg
     simp only[e',b8]at T;exact .inl<|aX.ak _ _ T l c
   |m A=>
    simp only[bw,aD,reduceCtorEq,b8,EP]at T
    by_cases e:A∈fm.map (·.1)
    .rw[q e]at T;cases T
    .rw[y e]at T;exact .inl<|aX.ak _ _ T l c
  .intro A x T;simp only[bw,aD,reduceCtorEq,b8,EP]at T;by_cases e:A∈fm.map (·.1)
   .rw[q e]at T;cases T
   .rw[y e]at T;exact .inl<|aX.dX _ _ T
  .refine⟨X.os.trans aX.below.os,X.tape.trans aX.below.tape,X.output.trans aX.below.output,br aX.below.size X.size,λk H M=>?_⟩;have w:k<W.heap.size:=gK H aX.below.size;rw[<-aX.below.block k H M];refine X.block k w<|λho=>?_;rcases hN k ho with C|C
   .omega
   .exact M C
  .intro k aG H M;have w:k<W.heap.size:=gK H aX.below.size;show H' k aG=_;rw[xM k aG w (λho=>?_)]
   .exact aX.fresh k aG H M
   .rcases hN k ho with C|C
    .omega
    .exact M C
 .intro Y B;rcases bl.1 B with B|B
  .let ⟨x,_,h⟩:=js.1 B;exact eQ _ x Y h
  .exact ly _ _ Y B
 .funext k;cases k with
  |s t=>
   simp only[bw,aD,EP,St.kn,o]
   by_cases e:d=t
   .simp[e]
   .have e':¬(Key.s d=Key.s t):=λh=>e fg
    simp[e,e']
  |m A=>
   simp only[bw,aD,reduceCtorEq,b8,EP,St.kn]
   by_cases e:A∈fm.map (·.1)
   .rw[q e];let ⟨b,z⟩:=ahK e;simp[ahL A b z]
   .rw[y e];show _=Option.map Info.b (o A<|p++fm);rw[Q4];cases C:o A fm with
    |some b=>exact aF (RA C) e
    |none=>rw[Option.or_none]
 .intro k H;simp only[dL,gf,bl]at H;rcases H with h|h
  .exact eT _<|ff _ _ k h
  .exact gO _<|kE _ _ k h
 .intro k H;simp only[gw,gX,b7,OT]at H;rcases H with h|h
  .exact b7.2<|.inl h
  .refine b7.2<|.inr ?_;simpa[Function.comp]using h
end
section
variable{n:G}{Q:iD}{sl sl':E (G×AV)}{mem bT:E (G×aA)}{nx:G}{gd gd':E (G×Bool)}{ops:Array a8}{draw:Bool}{p:Pr}{ks dC:E Ks}{i i' n0 cw:G}{os dR:E a8}{d:G}{ty:eI}{pos:String}{iF:Array Edge}{R:St->Prop}
def rcc{f}{args}{g}{conc fm}{vs}{l}(v:runs dM n nx draw ops.toList os i ⟨sl,mem,n0,gd⟩ .t ks=(⟨ad d,.call ⟨.value<|.func f,args,g⟩,ty,pos,iF,none⟩::dR,i',⟨sl',conc++fm,cw,gd'⟩,p,dC))(x:kF ⟨sl',conc++fm,cw,gd'⟩ args.toList=ad vs)(z:Rz O f vs fm l)(a:∀u b,o u fm=ad b->o u conc=none)
  (A:RG O n ops draw nx (i'+1) dR ⟨(d,l)::sl',conc,cw,gd'⟩ (ix draw dC (bN args.toList++da (fm.map (·.1)),.s d::(fm.map (·.1)).map .m)) R)
  (B:p:=by exact Ba) (k:dZ d n=ae:=by rfl):RG O n ops draw nx i os ⟨sl,mem,n0,gd⟩ ks R:=
 jO cq v B (nv (λC=>at5 C J J (c7 k) J x z a)<|nw A)
end
def Ma(l:E (G×aA))(a:G):E (G×aA)->Prop
 |[]=>True
 | (t,b)::f=>((∃v,o t l=ad v/\mb v b)\/∃d z,o t l=ad (.box d z [.V (.slice none 0 0)])/\b= .box d z [.X a])/\Ma l a f
def Ma.get{l:E (G×aA)}{d:G}:∀{m:E (G×aA)},Ma l d m->∀{t b},o t m=ad b->(∃v,o t l=ad v/\mb v b)\/∃f z,o t l=ad (.box f z [.V (.slice none 0 0)])/\b= .box f z [.X d]
 |[],_,_,_,a=>by simp[o]at a
 | (k,x)::m,hw,t,b,a=>by
  simp[o]at a;split at a
  next g=>subst g;cases a;exact hw.1
  .exact Ma.get hw.2 a
def at6 f bt T{sl}{mem}{nx}{gd}{n}{m2}{d}{B}(hs:A7 sl n)(hm:Ma mem f m2)(aY:fa (1000000*nx) f=ae)
  (DN:yB (1000000*d) ((f,.vec bt T [])::m2)) (hbs:A8 (1000000*d) n=ae:=by rfl) (x:(fa 1 d&&fa 1 f)=ae:=by rfl):Wk ⟨sl,mem,nx,gd⟩ ⟨n,(f,.vec bt T [])::m2,d,B⟩:=by
 generalize C:(⟨sl,mem,nx,gd⟩:St)=st
 obtain rfl:sl=st.sl:=by rw[<-C]
 obtain rfl:mem=st.mem:=by rw[<-C]
 obtain rfl:nx=st.nx:=by rw[<-C]
 clear C
 intro F oL g W a h
 simp only[cP]at x
 obtain⟨x,K⟩:=x
 have x:=c7 x
 have K:=c7 K
 have aY:=c7 aY
 let N:Gh:=⟨g.H,λj=>if j=f then .slice none 0 0 else g.γ j⟩
 have l:gN (kb st) g N:=⟨cL.refl _,λj M=>by have M:j<1000000*st.nx:=M;have:j≠f:=Y;simp[N,this]⟩
 have Q:N.γ f= .slice none 0 0:=by simp[N]
 have R:∀f,f<F.k0->f<1000000*d/\N.γ f=F.γ0 f:=by intro j M;obtain⟨S,U⟩:=h.fT j M;refine⟨Y,?_⟩;rw[l.γ j S];exact U
 have hS:∀t p,St.kn ⟨n,(f,.vec bt T [])::m2,d,B⟩ (.s t)=ad (.v p)->(∃v,st.kn (.s t)=ad (.v v)/\bu v p)/\∀f∈p.ak,f<1000000*d:=by intro t p e;simp only[St.kn,bY]at e;obtain⟨y,P,D⟩:=e;cases D;refine⟨?_,F9 hbs t p P⟩;obtain⟨v,hv,l⟩:=hs.get P;exact⟨v,si,l⟩
 have O:∀j u,St.kn ⟨n,(f,.vec bt T [])::m2,d,B⟩ (.m j)=ad (.b u)->((j=f/\u= .vec bt T [])\/(∃b,st.kn (.m j)=ad (.b b)/\mb b u)\/∃G z,st.kn (.m j)=ad (.b<|.box G z [.V (.slice none 0 0)])/\u= .box G z [.X f])/\(j<1000000*d/\∀i∈u.ak,i<1000000*d):=by
  intro t p e;simp only[St.kn,bY]at e;obtain⟨y,P,D⟩:=e;cases D;refine⟨?_,DN t p P⟩;simp only[o]at P;split at P
  next e=>cases P;exact .inl ⟨e.symm,J⟩
  .rcases hm.get P with⟨v,hv,l⟩|⟨G,z,hv,e⟩
   .exact .inr<|.inl ⟨v,si,l⟩
   .exact .inr<|.inr ⟨G,z,si,e⟩
 refine⟨N,h.size,h.defers,?_,?_,?_,?_,?_,h.sub,h.below,h.le,h.fresh,R⟩
 .intro t p e;obtain⟨v,hv,Z⟩:=(hS t p e).1;exact Z.1 _ _<|bh.mono l (h.ak _ _ hv)<|h.dW t v hv
 .intro j u e;rcases(O j u e).1 with⟨rfl,rfl⟩|⟨b,q,JH⟩|⟨G,z,q,rfl⟩
  .exact .inl ⟨Q,J⟩
  .exact JH.1 _ _ _ _<|(h.cM j b q).wj l (h.dX _ _ q) (h.ak _ _ q)<|λk A=>⟨J,λaG=>rfl⟩
  .obtain⟨k,vs,rest,e1,e2,e3,e4,e5,e6⟩:=(h.cM j _ q).wj l (h.dX _ _ q) (h.ak _ _ q)<|λk A=>⟨J,λaG=>rfl⟩;refine⟨k,vs,rest,e1,e2,?_,e4,e5,e6⟩;obtain⟨v,r,rfl,S,U⟩:=e3;refine⟨v,r,J,?_,U⟩;show v=N.γ f;rw[Q];exact S
 .intro i j I b2 k e e' A uT;have L:∀i I,St.kn ⟨n,(f,.vec bt T [])::m2,d,B⟩ (.m i)=ad (.b I)->cO (N.γ i)=ad k->∃c,st.kn (.m i)=ad (.b c)/\cO (g.γ i)=ad k:=by
   intro i I e A;rcases(O i I e).1 with⟨rfl,_⟩|⟨c,w,_⟩|⟨G,z,w,_⟩
   .rw[Q]at A;cases A
   .rw[l.γ i (h.dX _ _ w)]at A;exact⟨c,w,A⟩
   .rw[l.γ i (h.dX _ _ w)]at A;exact⟨_,w,A⟩
  obtain⟨c,w,hk1⟩:=L i I e A;obtain⟨c',Gd,JA⟩:=L j b2 e' uT;exact h.inj i j c c' k w Gd hk1 JA
 .intro k y e i hi;cases k with
  |s t=>
   cases y with
   |v p=>exact(hS t p e).2 i hi
   |b u=>simp only[St.kn,bY]at e;obtain⟨_,_,D⟩:=e;cases D
  |m j=>
   cases y with
   |v p=>simp only[St.kn,bY]at e;obtain⟨_,_,D⟩:=e;cases D
   |b u=>exact(O j u e).2.2 i hi
 .intro j y e;cases y with
  |v p=>simp only[St.kn,bY]at e;obtain⟨_,_,D⟩:=e;cases D
  |b u=>exact(O j u e).2.1
section
variable{P:bW}
def at8{n}{d}{b}{f i}{g}{k}{l}{Q m:St->Prop}(p:RG P n d b f i g k l Q)(s:∀a,Q a->m a):RG P n d b f i g k l m:=λt=>by let ⟨ds,a,u,v,h2,x,z,A,B,C⟩:=p t;exact⟨ds,a,u,v,h2,x,z,A,B,s a C⟩
end
section
variable{n:G}{Q:iD}{O:wI}{sl sl':E (G×AV)}{mem bT:E (G×aA)}{nx:G}{gd gd':E (G×Bool)}{id:G}{ops:Array a8}{draw:Bool}{y:Code}{p:Pr}{ks dC:E Ks}{i i' n0 cw:G}
def kr(d:BE O)(f:runs dM n nx draw ops.toList ops.toList 0 ⟨sl,mem,nx,gd⟩ .t []=([],i',⟨sl',bT,n0,gd'⟩,p,ks))(g:TJ Tryz.prog n y ⟨sl',bT,nx+1,[]⟩ O Q)
  (hp:p:=by exact m5) (k:(!draw||sd ops.toList ks)=ae:=by kernel_rfl) (a:fa ops.size 1000=ae:=by rfl) (b:sL mem=ae:=by rfl):TJ Tryz.prog n (.seq (.region id ops draw) y) ⟨sl,mem,nx,gd⟩ O Q:=
 og (Pt MX d b<|jO cq f hp<|Ju (nD g) k a)
def kt(d:BE O)(f:runs dM n nx draw ops.toList ops.toList 0 ⟨sl,mem,nx,gd⟩ .t []=([],i',⟨sl',bT,n0,gd'⟩,p,ks))(g:iY n .normal ⟨sl',bT,nx+1,[]⟩ O Q)
  (k:p:=by exact m5) (l:(!draw||sd ops.toList ks)=ae:=by kernel_rfl) (a:fa ops.size 1000=ae:=by rfl) (b:sL mem=ae:=by rfl):TJ Tryz.prog n (.region id ops draw) ⟨sl,mem,nx,gd⟩ O Q:=
 Pt MX d b (jO cq f k<|Ju g l a)
def At(f:BE O)(a:RG Tryz.prog n ops draw nx 0 ops.toList ⟨sl,mem,nx,gd⟩ [] (λb=>TJ Tryz.prog n y b O Q))(d:sL mem=ae:=by rfl):TJ Tryz.prog n (.seq (.region id ops draw) y) ⟨sl,mem,nx,gd⟩ O Q:=og<|Pt MX f d<|at8 a λ_ a=>nD a
def Ih(d:BE O)(f:RG Tryz.prog n ops draw nx 0 ops.toList ⟨sl,mem,nx,gd⟩ [] (λa=>iY n .normal a O Q))(b:sL mem=ae:=by rfl):TJ Tryz.prog n (.region id ops draw) ⟨sl,mem,nx,gd⟩ O Q:=Pt MX d b f
end
def RB{n f i}{a}{g}{m p}{k b d}{s}{l}(v:runs dM n f ah a.toList (az i a.toList) i k .t []=(g,m,b,s,l))(t:SG O n a f m b p d)
  (x:s:=by first|trivial| (simp[Pr.an,Pr.h,num,ia];first|done|omega)| (simp[Pr.an,Pr.h,num,ia];done)| (simp[Pr.an,Pr.h,num,ia];omega)):SG O n a f i k p d:=
 (aez cq _ i k .t [] v x (λq o u=>by rw[uS]at u;rw[<-F3];exact u)).1 j t
def at9 n:(nQ n).Pairwise (λx a=>cx x.testBit n<cx a.testBit n\/(cx x.testBit n=cx a.testBit n/\x<a)):=by
 have one:∀s,(xh n s).Pairwise (λx a=>cx x.testBit n<cx a.testBit n\/(cx x.testBit n=cx a.testBit n/\x<a)):=λs=>by refine QX ?_ (List.Pairwise.filter _ (M5 (n:=2^n)):(xh n s).Pairwise (·<·));intro x a b d g;simp[xh,qN,beq_iff_eq]at b d;omega
 have f:∀k,((bJ k).flatMap λs=>xh n<|s+1).Pairwise (λx a=>cx x.testBit n<cx a.testBit n\/(cx x.testBit n=cx a.testBit n/\x<a)):=by
  intro k;induction k with
  |zero=>exact .nil
  |succ k i=>
   rw[AU,Gu]
   refine Aq.2 ⟨i,?_,λx b a d=>?_⟩
   .simp[l6,Rl];exact one<|k+1
   .simp[js,qO,l6,Rl,xh,qN,beq_iff_eq]at b d;let ⟨s,l,h2,m⟩:=b;left;omega
 exact f _
def mw(A B a:G):G:=cond (Nat.beq a A) B a
def RC{A B a}(b:a≠A):mw A B a=a:=by
 unfold mw;cases e:Nat.beq a A with
 |true=>exact aF (mi e) b
 |false=>rfl
def ahM A B:mw A B A=B:=by unfold mw;rw[Dy];rfl
def at'{g:Type}{A B}{m:E (G×g)}(hB:o B m=none):∀b a,(o b m).isSome=ae->(o a m).isSome=ae->mw A B b=mw A B a->b=a:=by
 intro b a h f e;by_cases d:b=A<;>by_cases h2:a=A
 .rw[d,h2]
 .subst d;rw[ahM,RC h2]at e;subst e;rw[hB]at f;cases f
 .subst h2;rw[ahM,RC d]at e;subst e;rw[hB]at h;cases h
 .rwa[RC d,RC h2]at e
def Yr{n}{m}{d}{p}{f}{Mo}(u:m=if p then .normal else .exit f)(i:1<=d.nx)(s:d.mem=Mo):iY n m d wL (KO p f Mo):=by intro F D x z g W a k A;have l:z=[]:=A;subst l;refine⟨u,g,d.nx,i,?_⟩;let ⟨sl,mem,nx,gd⟩:=d;simp only at s i;subst s;exact aR.frame (F:=F.dr []) (n':=(F.dr []).n) (ds':=[]) (rd':=(F.dr []).rd) k k.size k.defers (λt v B=>by simp[o]at B)<|λH b C=>C
open Classical in
open Classical in
section
variable{P:bW}{tt:TT}
def aua{n}{p}{a}{g i d}{f}{first b}{W}{pos}{A}{D}{u}{mem}{v}{z}{H}{Q:St->Prop}{N T}
  (hf:uZ ⟨u,mem,v,z⟩ first.toList=ad N) (hc:uZ ⟨u,mem,v,z⟩ b.toList=ad T)
  (l:∀k,RG P n p a g (i+1) D ⟨(d,.c<|.X<|1000000*g+1000*i)::u,(1000000*g+1000*i,.eB f N T)::mem,v,z⟩ (H++[k]) Q) (B:dZ d n=ae:=by rfl):
  RG P n p a g i (⟨ad d,.makeFunc (.func f) first b,W,pos,A,none⟩::D) ⟨u,mem,v,z⟩ H Q:=
 Ry (k:=(_,_)) (λK=>(abO K J J (c7 B) J hf hc<|1000000*g+1000*i).M7 ⟨aL _,by show _<1000000*g+1000*(i+1);omega⟩) (λq C=>by
  let ⟨x,_,l⟩:=js.1 C;exact eQ _ x q l) (by
   funext key;cases key with
   |s t=>
    by_cases e:d=t
    .subst e;simp[St.kn,o,bw,aD]
    .simp[St.kn,o,bw,aD,e]
   |m j=>
    by_cases e:1000000*g+1000*i=j
    .subst e;simp[St.kn,o,bw,aD]
    .simp[St.kn,o,bw,aD,e]) (λ_ l=>l) (λ_ l=>l) (l _)
def ahN{l}{m n:Ending->World->Prop}(g:∀b f,m b f->n b f){b}{a}{f}(d:bodyPost P l m b a f):bodyPost P l n b a f:=by
 cases b with
 |normal=>let ⟨i,v,h2,k⟩:=d;exact⟨i,v,h2,g _ _ k⟩
 |ret=>let ⟨i,v,h2,k⟩:=d;exact⟨i,v,h2,g _ _ k⟩
 |panic c=>exact⟨d.1,g _ _ d.2⟩
 |outgrown=>exact g _ _ d
 |_=>exact d
def RD(P:bW)(b:Func)(d:AV)(fm:E (G×aA)):iD:=λF e a W=>bodyPost P b (λe f=>∃v g,e= .returned v/\bh g d v/\aR F (λ_=>True) (St.kn ⟨[],fm,0,[]⟩) g f {tmps:=sD F.n undef,defers:=[]}) e a W
def RE(i:cE P tt=ae){n}{l}{x}{z}{A}(D:mc tt l z=ad A)(m:x.results=z.toArray:=by rfl):gy n .ret l (RD P x A l.mem):=by intro F B g W a h;let ⟨u,hu,d⟩:=A' i h m D;refine⟨h.defers.trans B.ds,u,hu,u,g,J,d,au,B.ds.symm,?_,λf b C=>h.cM f b C,λf p b H k K N=>h.inj f p b H k K N,λ_ _ _ _ _=>trivial,λ_ _ _=>trivial,h.sub,h.below,h.le,h.fresh,λf s=>⟨j,(h.fT f s).2⟩⟩;intro t v Q;simp[St.kn,o]at Q
def aub(B:G->G){n}{f}{fn}{dU}{vs}{k k'}{a7}{fm0 fm}(hf:P.funcs[f]? =ad fn)(hb:fn.body=ad dU)(hN:fn.ntmps=n)(hle:fa (Z vs) n=ae)(wH:cX vs=[])(qY:(fn.name != "runtime.NumGoroutine")=ae)
  (z:TR P n dU ⟨dT 0 vs,[],0,[]⟩ (RD P fn (Cb B a7) fm0)) (qj:k<=k') (Ii:∀d∈a7.ak,k<=d/\d<k') (D:∀d b,o d fm=ad b->o (B d) fm0=ad (qA B b)/\(k<=d/\d<k')/\∀T∈b.ak,k<=T/\T<k')
  (auc:∀d i,(o d fm).isSome=ae->(o i fm).isSome=ae->B d=B i->d=i):CX P f vs [] k a7 fm k':=by
 refine⟨zc,qj,?_⟩
 intro F g W Q hn lA p
 have I:fV g vs Q:=U6 vs Q 0 Q lA (λT hj=>au) (λt v U=>p.dW t v<|by simp[St.kn,U])
 have w:fV ⟨g.H,jP⟩ vs Q:=I.jh wH
 refine calls_of_wp hf hb ?_
 have hle:=c7 hle
 refine wp_mono (z {w0:=W,H0:=g.H,n:=n} ⟨J,bg _,J,J⟩ ⟨g.H,jP⟩ W _ ⟨?_,J,?_,?_,?_,?_,?_,p.sub,⟨J,J,J,aL _,λ_ _ _=>rfl⟩,cL.refl _,λ_ _ _ _=>rfl,λ_ z=>aF z<|nZ _⟩)<|λe a W' hq=>?_
 .simp[hN];omega
 .intro t v U;simp only[St.kn,bY]at U;obtain⟨x,C,A⟩:=U;cases A;obtain⟨_,u,hu,hr,_⟩:=me vs Q 0 w t v C;have O:Q[t]? =ad u:=v3;have jK:t<Z Q:=(qQ.1 O).1;have:(Q.toArray++sD (fn.ntmps-Q.toArray.size) undef).getD t undef=u:=by rw[l7,uW zd];simp[O]
  rw[this];exact hr
 .intro d b e;simp[St.kn,o]at e
 .intro d i b X k e;simp[St.kn,o]at e
 .intro k x e d l;cases k with
  |m T=>simp[St.kn,o]at e
  |s t=>
   simp only[St.kn,bY]at e
   obtain⟨cc,hy,A⟩:=e
   subst A
   obtain⟨_,u,_,_,h6⟩:=me vs Q 0 w t cc hy
   have:=h6 d l
   rw[wH]at this
   cases this
 .intro d x e;simp[St.kn,o]at e
 refine ahN ?_ hq
 rintro e W' ⟨v,R,rfl,hv,K⟩
 let M:Gh:=⟨R.H,λd=>if d<k then g.γ d else R.γ (B d)⟩
 have E:gN (λd=>k<=d) ⟨R.H,λd=>R.γ<|B d⟩ M:=⟨cL.refl _,λd l=>by show(if d<k then _ else _)=_;rw[y Y]⟩
 have S:∀d b,(St.kn ⟨[(0,a7)],fm,0,[]⟩) (.m d)=ad (.b b)->o d fm=ad b:=λd b e=>by simp only[St.kn,bY]at e;obtain⟨x,C,A⟩:=e;cases A;exact C
 have hS:∀t u,(St.kn ⟨[(0,a7)],fm,0,[]⟩) (.s t)=ad (.v u)->t=0/\u=a7:=λt u e=>by
  simp only[St.kn,o,bY]at e;obtain⟨x,C,A⟩:=e;cases A;split at C
  next e=>cases C;exact⟨e.symm,J⟩
  .cases C
 have hB:∀d b,o d fm=ad b->gW F.N M W' d b:=λd b e=>by obtain⟨m1,m2,m3⟩:=D d b e;exact ((X2<|K.cM (B d) (qA B b) (by simp[St.kn,m1])).step (known:=λd=>k<=d) (chg:=λ_=>False) (g':=M) (W':=W') ⟨E,λ_ _ _=>rfl,K.sub,aL _,λ_ _ _=>rfl,J,J,J⟩ m2.1 (λT hj=>(m3 T hj).1)<|λ_ _ z=>z.elim).O4 (λx _ _ _ _ C=> .inl<|br p.below.size<|C.resolve_right<|λz=>z)<|λx _ C=> .inl<|br p.below.size<|C.resolve_right<|λz=>z
 refine⟨v,M,J,J,p.defers,?_,λd b e=>hB d b<|S d b e,?_,?_,?_,K.sub,⟨K.below.os.trans p.below.os,K.below.tape.trans p.below.tape,K.below.output.trans p.below.output,br p.below.size K.below.size,λV hk L=>by rw[K.below.block V (gK hk p.below.size) (λz=>z)];exact p.below.block V hk L⟩,p.le.trans K.le,?_,?_⟩
 .intro t u e;obtain⟨rfl,rfl⟩:=hS t u e;have:=bh.mono E (λd l=>(Ii d l).1)<|X0 hv;simpa[n7]using this
 .intro d i b X V e e' hk uT;have e:=S _ _ e;have e':=S _ _ e';obtain⟨m1,m2,m3⟩:=D d b e;obtain⟨n1,n2,n3⟩:=D i X e';refine auc d i vO (by rw[e'];rfl) (K.inj (B d) (B i) _ _ V (by simp[St.kn,m1];rfl) (by simp[St.kn,n1];rfl) ?_ ?_)
  .have:=hk;simp only[M,y (Y:¬d<k)]at this;exact this
  .have:=uT;simp only[M,y (Y:¬i<k)]at this;exact this
 .intro key x e d l;cases key with
  |s t=>
   cases x with
   |v u=>obtain⟨rfl,rfl⟩:=hS t u e;exact(Ii d l).2
   |b X=>simp only[St.kn,bY]at e;obtain⟨_,_,A⟩:=e;cases A
  |m T=>
   cases x with
   |v v'=>simp only[St.kn,bY]at e;obtain⟨_,_,A⟩:=e;cases A
   |b X=>exact((D T X<|S T X e).2.2 d l).2
 .intro d x e;cases x with
  |v v'=>simp only[St.kn,bY]at e;obtain⟨_,_,A⟩:=e;cases A
  |b X=>exact((D d X<|S d X e).2.1).2
 .intro b aG hb L;show R.H b aG=F.H0 b aG;rw[K.fresh b aG (gK hb p.below.size) (λz=>z)];exact p.fresh b aG hb L
 .intro d l;obtain⟨i1,i2⟩:=p.fT d l;exact⟨gK i1 qj,by show(if d<k then _ else _)=_;rw[q i1];exact i2⟩
end
section
variable{n:G}{sl sl':E (G×AV)}{mem bT:E (G×aA)}{nx:G}{gd gd':E (G×Bool)}{ops:Array a8}{draw:Bool}{p:Pr}{ks dC:E Ks}{i i' n0 cw:G}
variable{R:St->Prop}{os:E a8}{d f:G}{ty:eI}{pos:String}{iF:Array Edge}{dR:E a8}
def Ys{first a}{g l}(m:runs dM n nx draw ops.toList os i ⟨sl,mem,n0,gd⟩ .t ks=(⟨ad d,.makeFunc (.func f) first a,ty,pos,iF,none⟩::dR,i',⟨sl',bT,cw,gd'⟩,p,dC))(s:uZ ⟨sl',bT,cw,gd'⟩ first.toList=ad g)(u:uZ ⟨sl',bT,cw,gd'⟩ a.toList=ad l)
  (v:∀k,RG O n ops draw nx (i'+1) dR ⟨(d,.c<|.X<|1000000*nx+1000*i')::sl',(1000000*nx+1000*i',.eB f g l)::bT,cw,gd'⟩ (dC++[k]) R)
  (x:p:=by exact Ba) (b:dZ d n=ae:=by rfl):RG O n ops draw nx i os ⟨sl,mem,n0,gd⟩ ks R:=
 jO cq m x (aua s u v b)
end
def aue{f}{mem a}{g}{i}{d}{l}{k}(p:∀n b,o n a=ad b->k<=n):St.kn ⟨(d,l)::f,a++mem,g,i⟩=bw (St.kn ⟨f,mem,g,i⟩) ((.s d,ad<|.v l)::kX k a):=by
 funext key;cases key with
 |s t=>
  by_cases e:d=t
  .subst e;simp[St.kn,o,bw,aD]
  .simp[St.kn,o,bw,aD,e,zn]
 |m j=>
  simp[St.kn,bw,aD,zo,Q4]
  cases h:o j a with
  |none=>simp
  |some b=>simp[p j b h]
section
variable{n:G}{sl sl':E (G×AV)}{mem bT:E (G×aA)}{nx:G}{gd gd':E (G×Bool)}{ops:Array a8}{draw:Bool}{p:Pr}{ks dC:E Ks}{i i' n0 cw:G}
variable{R:St->Prop}{os:E a8}{d f:G}{args:Array Operand}{kH:Array eI}{ty:eI}{pos:String}{iF:Array Edge}{dR:E a8}{vs:E AV}{r:AV}{xR:E (G×aA)}{k':G}
def rcN(a:runs dM n nx draw ops.toList os i ⟨sl,mem,n0,gd⟩ .t ks=(⟨ad d,.call ⟨.value<|.func f,args,kH⟩,ty,pos,iF,none⟩::dR,i',⟨sl',bT,cw,gd'⟩,p,dC))(z:kF ⟨sl',bT,cw,gd'⟩ args.toList=ad vs)(A:CX O f vs [] (1000000*nx+1000*i') r xR k')
  (l:k'<=1000000*nx+1000*(i'+1)) (m:∀g∈r.ak,1000000*nx+1000*i'<=g) (B:∀g b,o g xR=ad b->1000000*nx+1000*i'<=g) (s:∀g b,o g xR=ad b->∀D∈b.ak,1000000*nx+1000*i'<=D)
  (H:∀k,RG O n ops draw nx (i'+1) dR ⟨(d,r)::sl',xR++bT,cw,gd'⟩ (dC++[k]) R)
  (N:p:=by exact Ba) (P:cX vs=[]:=by rfl) (u:dZ d n=ae:=by rfl):RG O n ops draw nx i os ⟨sl,mem,n0,gd⟩ ks R:=
 jO cq a N (Ry (k:=(_,_)) (λC=>at2 C J J (c7 u) J z P A l m s) (λK v=>by let ⟨x,_,a⟩:=js.1 v;exact eQ _ x K a) (aue B) (λ_ a=>a) (λ_ a=>a)<|H _)
end
open Classical in
def ahP{n}{k b}(l:Wk k b):iY n .normal k wL (λd m a W=>m= .normal/\∃g,aR (d.dr []) (kb b) b.kn g W a):=λd _ f p g W a s t=>by have i:p=[]:=t;subst i;let ⟨u,v⟩:=l (d.dr []) f g W a s;exact⟨J,u,v⟩
def RF n g(b:g≠0)(d:Sm n)(a:Sm g):w O 147 [aZ n,aZ g] (aZ<|n/g):=by refine aK Tryz.func147 ?_;refine U J<|bQ J J (HE n g b d a) J<|U J<|cv J ?_;rfl
def Sm.gcd{n d}(g:d≠0)(a:Sm d):Sm ((jl n d:G):V):=by have b:jl n d<=aC d:=Nat.gcd_le_right _ Y;have f:Z (al<|aC<|((jl n d:G):V))<=Z (al<|aC d):=vn (by rw[rC];exact b);exact br f a
def Sm.ng{z}(a:Sm z):Sm (-z):=by
 have e:fo (-z)=fo z:=by unfold fo;rw[Qa]
 unfold Sm at*;rw[e];exact a
def RH n d(g:d≠0)(i:Sm n)(a:Sm d):w O 92 [aZ n,aZ d] (aQ<|kQ n d):=by
 refine aK Tryz.func92 ?_;have k:jl n d≠0:=λl=>g (Wv.1 l).2
 let ⟨p1,f⟩:=PI n d g;have b:Sm ((jl n d:G):V):=Sm.gcd g a;refine U J<|bQ J J (P' n d i a) J<|bI<|R<|rc J J (D5 d)<|M J<|F J (λh=>?_)<|λh=>?_
 .have h:d<0:=by
   have h:gH d<0:=fg;unfold gH at h;split at h
   .assumption
   ·(try split at h)<;>omega
  rw[q h]at p1 f;refine cG<|rc J J (Wm _)<|M J<|aS<|R<|rc J J (RF n _ Y i<|Sm.ng b)<|rc J J (RF d _ Y a<|Sm.ng b)<|M J<|cv J ?_;unfold aQ;simp[av,p1,f];rfl
 .have h:¬d<0:=by
   have h:¬gH d<0:=fg;unfold gH at h;split at h
   .omega
   .assumption
  rw[y h]at p1 f;refine aE<|R<|rc J J (RF n _ Y i b)<|rc J J (RF d _ Y a b)<|M J<|cv J ?_;unfold aQ;simp[av,p1,f];rfl
def Yt n d(b:d≠0)(f:Sm n)(a:Sm d):w O 134 [aZ n,aZ d] (.t [(ae,av .q<|kQ n d),(ah,[.I .i64 0])]):=by
 refine aK Tryz.func134 ?_;refine U J<|bI<|bQ J J (D5 d) J<|F J (λh=>?_)<|λh=>?_
 .exfalso;have h:gH d=0:=fg;unfold gH at h;split at h
  .omega
  ·(try split at h)<;>omega
 .refine aE<|bQ J J (RH n d b f a) J<|cv J ?_;rfl
def ER{k}a b(f:QS k a)(g:QS k b)(i:k<=500000000000):w O 41 [aQ a,aQ b] (aQ<|a*b):=by
 refine aK Tryz.func41 ?_;have l:=Ea (den_pos a)<|den_pos b;have e:kQ (a.num*b.num) ((a.den:V)*(b.den:V))=a*b:=by rw[<-Ig,pQ,pQ]
 rw[<-e];refine U J<|R<|rc J J (mr _ _ (f.n.sm Y)<|g.n.sm Y)<|rc J J (mr _ _ (f.d.sm Y)<|g.d.sm Y)<|rc J J (RH _ _ Y ((f.n.mul g.n).sm Y)<|(f.d.mul g.d).sm Y)<|M J<|cv J ?_;rfl
def Yu{k}a b(f:QS k a)(g:QS k b)(s:k<=500000000000):w O 42 [aQ a,aQ b] (aQ<|a+b):=by
 refine aK Tryz.func42 ?_;have i:=f.n.mul g.d;have l:=g.n.mul f.d;have t:=Ea (den_pos a)<|den_pos b;have e:kQ (a.num*(b.den:V)+b.num*(a.den:V)) ((a.den:V)*(b.den:V))=a+b:=by have u:=den_pos a;have v:=den_pos b;rw[<-Yi _ _ Y Y,pQ,pQ]
 rw[<-e];refine U J<|R<|rc J J (mr _ _ (f.n.sm Y)<|g.d.sm Y)<|rc J J (mr _ _ (g.n.sm Y)<|f.d.sm Y)<|rc J J (zN _ _ (i.sm Y)<|l.sm Y)<|rc J J (mr _ _ (f.d.sm Y)<|g.d.sm Y)<|rc J J (RH _ _ Y ((i.add l).sm Y)<|(f.d.mul g.d).sm Y)<|M J<|cv J ?_;rfl
def ahQ a:w O 46 [aQ a] (aQ<| -a):=by refine aK Tryz.func46 ?_;refine U J<|bQ J J (Wm a.num) J<|cv J ?_;rfl
def auf{k}a b(f:QS k a)(g:QS k b)(i:k<=500000000000):w O 216 [aQ a,aQ b] (c<|eR (a.num*(b.den:V))<|b.num*(a.den:V)):=by refine aK Tryz.func216 ?_;refine U J<|R<|rc J J (mr _ _ (f.n.sm Y)<|g.d.sm Y)<|rc J J (mr _ _ (g.n.sm Y)<|f.d.sm Y)<|rc J J (PF _ _)<|M J<|cN J
def ahR{k}a b(i:b.num≠0)(f:QS k a)(g:QS k b)(m:k<=500000000000):w O 133 [aQ a,aQ b] (.t [(ae,av .q<|a/b),(ah,[.I .i64 0])]):=by
 refine aK Tryz.func133 ?_;have l:(a.den:V)*b.num≠0:=B5 (kw<|den_pos a) i;have e:kQ (a.num*(b.den:V)) ((a.den:V)*b.num)=a/b:=by rw[<-Ig,pQ,s'];congr 1;conv=>rhs;rw[<-pQ b,Rat.inv_divInt]
 rw[<-e];refine U J<|R<|rc J J (mr _ _ (f.n.sm Y)<|g.d.sm Y)<|rc J J (mr _ _ (f.d.sm Y)<|g.n.sm Y)<|rc J J (Yt _ _ l ((f.n.mul g.d).sm Y)<|(f.d.mul g.n).sm Y)<|M J<|cv J ?_;rfl
def ahS a(f:Sm a):w O 93 [aZ a] (cB ae):=by
 refine aK Tryz.func93 ?_;have g:Z (al<|aC a)<=1099511627776:=f;have d:Z (fo a)<=1099511627776:=f;refine U J<|U J<|h<|U J<|F J (λb=>?_)<|λb=>aE ?_
 .have b:(Z (al<|aC a):V)=0:=dw b;have k:a=0:=by have:¬0<Z (al<|aC a):=Y;rw[rj]at this;omega
  subst k;exact U J<|bX<|cY<|atR J
 .have b:(Z (al<|aC a):V)≠0:=pN b;have i:0<Z (fo a):=by show 0<Z (al<|aC a);omega
  refine U J (hp:=aH)<|cv J ?_;have l:=yf<|aC a;refine bm cB ?_;rcases l with e|e
  .rw[e]at b;simp at b
  .show(I (al<|aC a) (af<|(Z (al<|aC a):V)-1) 0 !=0)=ae;rw[(Y:af ((Z (al<|aC a):V)-1)=Z (al<|aC a)-1)];simpa using e
def ahT a b(k:Sm a):w O 68 [aZ a,aZ b] (cB<|decide<|a=b):=by
 refine aK Tryz.func68 ?_;have k:Z (fo a)<=1099511627776:=k;refine U J<|h<|R<|rg 11 J J (λd=>?_)<|λd=>?_
 .have d:cD a≠cD b:=ag8.1 d;refine M J<|F J (λ_=>U J<|bX<|cY<|fK J<|bm cB ?_)<|λh2=>pO;rw[rz (λe=>d xU)]
 .have d:cD a=cD b:=by
   have d:¬(cD a !=cD b)=ae:=by rw[d];decide
   rw[ag8]at d;exact Decidable.not_not.1 d
  refine M J<|F J (λh2=>?_)<|λh2=>aE ?_
  .refine U J<|bX<|cY<|fK J<|bm cB ?_;rw[rz (λe=>(zZ h2) xU)]
  .have h2:=yj h2;refine h<|U J<|ay<|bq (α:=G) (λi=>⟨[(2,.c<|.P 0 0),(3,.c<|.P 1000 0),(5,c i)],[(0,.box 42 0<|av .z a),(1000,.box 42 0<|av .z b)],4,[]⟩) (λi=>i<=Z (fo a)/\r i (fo a)=r i (fo b)) (λi=>Z (fo a)-i) 0 ⟨bg _,au⟩ (wk (bK J) ⟨bE J J,bE J J,j⟩) ?_;rintro i ⟨l,ht⟩;refine h (U J<|F J (λf=>?_)<|λf=>?_)
   .have f:i<Z (fo a):=by have f:(i:V)<(Z (fo a):V):=aV f;omega
    refine aE<|h<|ay<|U J (hp:=aH)<|F J (λg=>?_)<|λg=>di<|bP ?_
    .have g:I (fo a) i 0≠I (fo b) i 0:=zZ g;refine U J<|bX ?_;repeat(first|refine cY ?_|refine ma ?_|refine m0 ?_)
     refine fK J<|bm cB ?_;rw[rz (λe=>g xU)]
    .have g:I (fo a) i 0=I (fo b) i 0:=yj g;exact rt J<|a4 (i+1) ⟨f,by rw[uc _ i f,uc _ i Y,ht,g]⟩ (Y:Z (fo a)-(i+1)<Z (fo a)-i)<|wk (bK J) ⟨bE J J,bE J J,j⟩
   .have f:i=Z (fo a):=by have f:¬(i:V)<(Z (fo a):V):=bc f;omega
    subst f;rw[iG,jM Y]at ht;refine bs<|aS<|U J<|cv J<|bm cB ?_;rw[rA (atd d ht)]
def RI{k}a b(g:QS k a)(i:k<=100000000000):w O 21 [aQ a,aQ b] (cB<|decide<|a=b):=by
 refine aK Tryz.func21 ?_;refine U J<|R<|rc J J (ahT a.num b.num<|g.n.sm Y)<|rg 10 J J (λh=>?_)<|λh=>?_
 .have h:a.num=b.num:=aV h;refine jF J J J J J (ahT (a.den:V) (b.den:V)<|g.d.sm Y)<|M J<|cv J<|bm cB ?_;by_cases e:(a.den:V)=(b.den:V)
  .rw[rA e,rA<|Rat.ext h Y];rfl
  .rw[rz e,rz<|λf=>e<|by rw[f]];rfl
 .have h:¬a.num=b.num:=bc h;refine M J<|cv J<|bm cB ?_;rw[rz (λf=>h<|by rw[f])]
def aug{k}a(b:QS k a)(g:k<=100000000000):w O 39 [aQ a] (cB ae):=by
 refine aK Tryz.func39 ?_;have i:=den_pos a;refine U J<|bI<|R<|rc J J (ahS a.num<|b.n.sm Y)<|rg 7 J J (λh=>gL)<|λ_=>(jF J J J J J (ahS (a.den:V)<|b.d.sm Y)<|rg 13 J J (λh=>gL)<|λ_=>(jF J J J J J (D5 (a.den:V))<|M J<|F J (λh=>?_)<|λ_=>aE ?_))
 .exfalso;have h:gH (a.den:V)<1:=aV h;unfold gH at h;split at h
  .omega
  .split at h<;>omega
 have f:=P' a.num (a.den:V) (b.n.sm Y)<|b.d.sm Y;have e:jl a.num (a.den:V)=1:=a.reduced;rw[e]at f;refine R<|rc J J f<|rc J J (km 1 S S)<|rc J J (PF ((1:G):V) 1)<|M J<|cN J
def bZ(a b:E L):E L:=if Z a<Z b then a else gI ((eF (I b (Z b-1) 0)⁻¹ a b (Z b-1) (Z a+1-Z b) (Z a+1-Z b)).2.take<|Z b-1)
def dA(a:E L):E L:=if a=[]then[]else gI (uq (I a (Z a-1) 0)⁻¹ a)
def fX:G->E L->E L->E L
 |0,a,_=>a
 |k+1,a,b=>if b=[]then a else fX k b (dA<|bZ a b)
structure Au(s:G)(a b:E L):Prop where
 la:a.length<=500
 lb:b.length<=500
 bn:b.getD (b.length-1) 0≠0
 qb:∀i,QS s (b.getD i 0)
 qS:∀d,d<=a.length+1-b.length->∀i,QS s ((eF (b.getD (b.length-1) 0)⁻¹ a b (b.length-1) (a.length+1-b.length) d).2.getD i 0)
 rn:bZ a b≠[]->(bZ a b).getD ((bZ a b).length-1) 0≠0
 qr:∀i,QS s ((bZ a b).getD i 0)
def Cj(s:G):G->E L->E L->Prop
 |0,_,b=>b=[]
 |k+1,a,b=>b=[]\/(Au s a b/\Cj s k b (dA<|bZ a b))
def ES l:Z (gI l)<=Z l:=Yv
def nS{a b}(d:b≠[]):Z (bZ a b)<Z b:=by
 have f:=cF.2 d;unfold bZ;split
 .assumption
 .exact wV (ES _) K7
abbrev UT:ET:= .pr (.sl .q) oR
namespace Rx
def Yw(l:E L):∀n,lC l n<=n/\(∀i,lC l n<=i->i<n->I l i 0=0)/\(lC l n=0\/I l (lC l n-1) 0≠0)
 |0=>⟨aL _,λi _ a=>aF a Y,.inl J⟩
 |n+1=>by
  rw[lC];split
  .rename_i a;let ⟨d,b,f⟩:=Yw l n;refine⟨Y,λi g k=>?_,f⟩;by_cases e:i=n
   .subst e;exact Rat.num_eq_zero.1 a
   .exact b i g Y
  next a=>exact⟨aL _,λi d b=>aF b Y,.inr λe=>a<|by rw[eL]at e;rw[e];rfl⟩
def Ij(a:E L) n i:(r n a).getD i 0=if i<n then I a i 0 else 0:=by
 rw[aO,Jm];split
 .rw[aO]
 .rfl
def ahU{l}{n}(a:∀i,n<=i->I l i 0=0):lx (r n l)=lx l:=ext λi=>by
 rw[dN,dN,Ij];split
 .rfl
 .exact(a i Y).symm
def uu l:lx (gI l)=lx l:=ahU λi a=>by
 by_cases e:i<Z l
 .exact(Yw l<|Z l).2.1 i a e
 .exact fP l Y
def jV l:bp (gI l):=by
 let ⟨d,h2,a⟩:=Yw l<|Z l;have b:Z (gI l)=lC l (Z l):=Yv;rcases a with a|a
 .exact .inl<|gx Y
 .by_cases e:lC l (Z l)=0
  .exact .inl<|gx Y
  .right;rw[b];unfold gI;rw[Ij,q Y];exact a
def bp.ne{a}(b:bp a)(d:a≠[]):I a (Z a-1) 0≠0:=b.resolve_left d
def Ck{a}(b:bp a)(d:a≠[]):lx a≠0:=λe=>d<|nP b ug<|e.trans ku.symm
def ahV b a:lx (uq b a)=K b*lx a:=ext λi=>by rw[du];exact ahB b a i
def Yx a:lx (qB a)=bH (lx a):=ext λi=>by
 rw[s7,dN,dN];by_cases h:i<Z a-1
 .rw[ahC h];rfl
 .rw[fP (qB a) (by rw[Rv];omega),fP a Y,eh]
def Mb{r b}a{k}(f:k+Z b<=Z r):lx (kS r a b k)=lx r+K a*(X k*lx b):=ext λi=>by
 rw[ef,du,lD,dN,dN];by_cases d:i<Z r
 .rw[show I (kS r a b k) i 0=_ from xi d];by_cases e:k<=i/\i<k+Z b
  .rw[q e,q e.1];rfl
  .rw[y e];split
   .rw[dN,fP b Y,eh,nM]
   .rw[eh,nM]
 .rw[fP (kS r a b k) (by rw[kS,oY];omega),fP r Y];split
  .rw[dN,fP b Y,eh,nM]
  .rw[eh,nM]
def auh a d b:lx (Ar a d b)=lx a+K d*lx b:=by unfold Ar;rw[Mb d (by rw[Rw Y];omega),Xu,c8];congr 1;exact ext λi=>ahD a _ i
def aui{l}{k}t(a:k<Z l)(b:I l k 0=0):lx (l.set k t)=lx l+K t*X k:=ext λi=>by
 rw[ef,du,rH,dN,dN,EO i t a];by_cases e:k=i
 .subst e;rw[q J,q J,b];grind
 .rw[y e,y<|λa=>e a.symm];grind
def Yy{a b:E L}{n m:G}(s:Z b=n+1)(t:Z a=n+m)(v:I b n 0≠0):∀d,d<=m->
  lx a=lx (eF (I b n 0)⁻¹ a b n m d).1*lx b+lx (eF (I b n 0)⁻¹ a b n m d).2/\(∀i,i<m-d->(eF (I b n 0)⁻¹ a b n m d).1.getD i 0=0)/\(∀i,n+(m-d)<=i->(eF (I b n 0)⁻¹ a b n m d).2.getD i 0=0)
 |0,_=>by have f:∀i,I (bx m (0:L)) i 0=0:=L9 m;refine⟨?_,λi _=>f i,λi g=>fP a Y⟩;show lx a=lx (bx m 0)*lx b+lx a;rw[show lx (bx m (0:L))=0 from ext f,dy,iI]
 |d+1,z=>by
  let ⟨l,h2,p⟩:=Yy s t v d Y;let ⟨l1,l2⟩:=As (I b n 0)⁻¹ a b n m d;rw[eF];generalize eF (I b n 0)⁻¹ a b n m d=x at*;let ⟨B,r⟩:=x;simp only at l h2 p l1 l2⊢;refine⟨?_,λi g=>?_,λi g=>?_⟩
  .rw[aui _ Y (h2 _ Y),Mb _ Y,l,gQ,HX,neg_mul,dc (K _)<|X _];generalize K (I r (m-1-d+n) 0*(I b n 0)⁻¹)*(X (m-1-d)*lx b)=u;rw[kq,<-kq u,jS u,kq<|lx r,k6,fA]
  .rw[EO i _ Y,y Y,h2 i Y]
  .have:=bm (λA:Rx=>A i)<|Mb (r:=r) (b:=b) (-(I r (m-1-d+n) 0*(I b n 0)⁻¹)) (k:=m-1-d) Y;simp only[ef,du,lD,dN]at this;rw[this,q Y];by_cases e:i=m-1-d+n
   .subst e;rw[(Y:m-1-d+n-(m-1-d)=n)];grind
   .rw[p i Y,fP b (i:=i-(m-1-d)) Y];grind
def cV(a b:E L):E L:=if Z a<Z b then[]else gI (eF (I b (Z b-1) 0)⁻¹ a b (Z b-1) (Z a+1-Z b) (Z a+1-Z b)).1
def Av a b:bp (cV a b):=by
 unfold cV;split
 .exact ug
 .exact jV _
def Ik a b:Z (cV a b)<=Z a+1-Z b:=by
 unfold cV;split
 .exact bg _
 .refine br (ES _) ?_;rw[(As ..).1];exact aL _
def Cm{a b}(f:bp b)(d:b≠[]):lx a=lx (cV a b)*lx b+lx (bZ a b):=by
 have l:=cF.2 d;unfold cV bZ;by_cases h:Z a<Z b
 .rw[q h,q h,ku,dy,iI]
 .rw[y h,y h,uu,uu];let ⟨g,_,k⟩:=Yy (a:=a) (b:=b) (n:=Z b-1) (m:=Z a+1-Z b) Y Y (f.ne d) _<|aL _;rw[ahU (λi p=>k i Y)];exact g
def oZ{a b}(d:bp a):bp (bZ a b):=by
 unfold bZ;split
 .exact d
 .exact jV _
def Am{a b}(k:bp a)(g:bp b)(d:b≠[])(i:lx b∣lx a):lx a=lx (cV a b)*lx b:=by
 have f:=Cm (a:=a) g d;have l:lx (bZ a b)=0:=by
  refine ui (A:=lx b) ?_ ?_
  .rw[f]at i;exact yo i<|jc _ _
  .rw[fj (oZ k),fj g];exact nS d
 rw[l,fA]at f;exact f
def qC a:bp (dA a):=by
 unfold dA;split
 .exact ug
 .exact jV _
def vE{a}(b:a≠[]):lx (dA a)=K (I a (Z a-1) 0)⁻¹ *lx a:=by rw[dA,y b,uu,ahV]
def Mc:dA []=[]:=q J
def uv{a:L}(b:a≠0):a⁻¹ ≠0:=λe=>by have:=k8 _ b;rw[e,mF]at this;exact aF this S
def ahW{a}(d:bp a)(b:a≠[]):Mo (lx<|dA a):=by have g:=cF.2 b;have f:=eS (uh<|uv<|d.ne b)<|Ck d b;rw[yv (uv<|d.ne b),fj d]at f;rw[vE b,Mo,du,(Y:sz (K (I a (Z a-1) 0)⁻¹ *lx a)-1=Z a-1),dN,k8 _<|d.ne b]
def EU{a}(d:bp a):Z (dA a)=Z a:=by
 by_cases b:a=[]
 .subst b;rw[Mc]
 .have f:=eS (uh<|uv<|d.ne b)<|Ck d b;rw[yv (uv<|d.ne b),fj d,<-vE b,fj<|qC a]at f;omega
def ahX a:lx a∣lx (dA a)/\(bp a->lx (dA a)∣lx a):=by
 by_cases b:a=[]
 .subst b;rw[Mc];exact⟨nO _,λ_=>nO _⟩
 .rw[vE b];refine⟨jc _ _,λh=>⟨K<|I a (Z a-1) 0,?_⟩⟩;rw[<-dc,dk (K _)<|K _,qy<|h.ne b,c8]
def Yz:∀(k:G)(a b:E L),bp a->bp b->Z b<k->bp (fX k a b)/\lx (fX k a b)∣lx a/\lx (fX k a b)∣lx b/\∃f d,lx (fX k a b)=f*lx a+d*lx b
 |0,_,_,_,_,p=>by omega
 |k+1,a,b,i,l,p=>by
  rw[fX];split
  next g=>subst g;exact⟨i,nO _,by rw[ku];exact uf _,1,0,by rw[c8,dy,fA]⟩
  next g=>have t:=nS (a:=a) g;have m:=oZ (b:=b) i;have n:=Cm (a:=a) l g;let ⟨i1,i2,i3,f,d,i4⟩:=Yz k b (dA<|bZ a b) l (qC _) (by rw[EU m];omega);let ⟨d1,d2⟩:=ahX<|bZ a b;let ⟨w,hw⟩:=d1;refine⟨i1,by rw[n];exact iA (dE i2 _)<|fW i3<|d2 m,i2,d*w,f-d*w*lx (cV a b),?_⟩;rw[i4,hw,n,fN,ov];have:d*w*(lx (cV a b)*lx b)+d*w*lx (bZ a b)+(f*lx b-d*w*lx (cV a b)*lx b)=(f*lx b-d*w*lx (cV a b)*lx b+d*w*lx (cV a b)*lx b)+d*(w*lx (bZ a b)):=fC;rw[this,mG]
def ahY{k}{a b}(g:bp a)(i:bp b)(l:Z b<k)(m:a≠[]):fX k a b≠[]/\bp (dA<|fX k a b)/\LC (lx<|dA<|fX k a b) (lx a) (lx b):=by
 let ⟨f,h2,n,U,V,p⟩:=Yz k a b g i l;have d:fX k a b≠[]:=λe=>by rw[e,ku]at h2;let ⟨w,hw⟩:=h2;rw[g6]at hw;exact Ck g m hw
 let ⟨d1,d2⟩:=ahX<|fX k a b;let ⟨w,hw⟩:=d1;refine⟨d,qC _,ahW f d,fW (d2 f) h2,fW (d2 f) n,w*U,w*V,?_⟩;rw[hw,p,fN,dc,dc]
end Rx
def EV(xs:E L)(i:Z xs<=1000000):w O 62 [e .q xs] (e .q<|gI xs):=by
 refine aK Tryz.func62 ?_;refine U J<|U J<|h<|ay<|bq (α:=G) (λk=>⟨[(0,e .q xs),(3,c k)],[],2,[]⟩) (λk=>k<=Z xs/\lC xs k=lC xs (Z xs)) (λk=>k) (Z xs) ⟨aL _,J⟩ aN ?_;rintro k ⟨l,a⟩;have d:lC xs k=k->bu (e .q<|r k xs) (e .q<|gI xs):=λf=>by refine bu.of_eq ?_;unfold gI;rw[<-a,f]
 refine h<|R<|rg 8 J J (λb=>?_)<|λb=>?_
 .have b:0<k:=by have b:(k:V)>0:=aV b;omega
  obtain⟨j,rfl⟩:∃j,k=j+1:=⟨k-1,Y⟩;have g:af (((j+1:G):V)-1)=j:=Y;refine jF J J J J J (Wt<|I xs (af<|((j+1:G):V)-1) 0) (M J<|F J (λh2=>?_)<|λh2=>?_) (hp:=lQ)
  .have h2:(I xs j 0).num=0:=by have h2:gH (I xs (af<|((j+1:G):V)-1) 0).num=0:=dw h2;rw[g]at h2;exact yC.1 h2
   refine aE<|ay<|rt J (fF<|a4 j ⟨Y,?_⟩ vk<|wk ⟨sR J,sE J<|jQ (Y:((j+1:G):V)-1=(j:V)),fp⟩ fp) (hp:=lQ)
   .rw[<-a,lC,q h2]
  .have h2:(I xs j 0).num≠0:=by have h2:gH (I xs (af<|((j+1:G):V)-1) 0).num≠0:=pN h2;rw[g]at h2;exact λf=>h2 (yC.2 f)
   exact bs<|aS<|U J (bX<|iX cq J<|d<|by rw[lC,y h2]) (hp:=aH)
 .have b:k=0:=by have b:¬(k:V)>0:=bc b;omega
  subst b;exact M J<|F J (λh2=>pO)<|λ_=>bs<|aS<|U J (bX<|iX cq J<|d J) (hp:=aH)
def ahZ(a:E L)(i:G):w O 89 [e .q a,c i] (aQ<|I a i 0):=by
 refine aK Tryz.func89 ?_;refine U J<|h<|U J<|F J (λb=>?_)<|λb=>?_
 .have b:i<Z a:=by have b:(i:V)<(Z a:V):=aV b;omega
  refine U J (hp:=aH)<|bX<|cY<|fK J ?_;rfl
 .have b:¬i<Z a:=by have b:¬(i:V)<(Z a:V):=bc b;omega
  refine aE<|bQ J J (nH 0 S S) J<|cv J ?_;rw[Rx.fP a Y];rfl
def auj(xs:E L)(l:Z xs<=1000000):Rz O 62 [.c (.X 2002000)] [(2002000,.vec 44 .q xs)] (e .q<|gI xs):=by
 refine at4 3 Tryz.func62 J J J (λm f=>by rw[iW.1 f];decide) (yB.of J) J S<|fq (Jz 2002000 J)<|U J<|U J<|h<|ay<|bq (α:=G) (λk=>⟨[(0,e .q xs),(3,c k)],[],5,[]⟩) (λk=>k<=Z xs/\lC xs k=lC xs (Z xs)) (λk=>k) (Z xs) ⟨aL _,J⟩ aN ?_;rintro k ⟨n,a⟩;have d:lC xs k=k->bu (e .q<|r k xs) (e .q<|gI xs):=λg=>by refine bu.of_eq ?_;unfold gI;rw[<-a,g]
 refine h<|R<|rg 8 J J (λb=>?_)<|λb=>?_
 .have b:0<k:=by have b:(k:V)>0:=aV b;omega
  obtain⟨j,rfl⟩:∃j,k=j+1:=⟨k-1,Y⟩;have i:af (((j+1:G):V)-1)=j:=Y;refine jF J J J J J (Wt<|I xs (af<|((j+1:G):V)-1) 0) (M J<|F J (λh2=>?_)<|λh2=>?_) (hp:=lQ)
  .have h2:(I xs j 0).num=0:=by have h2:gH (I xs (af<|((j+1:G):V)-1) 0).num=0:=dw h2;rw[i]at h2;exact yC.1 h2
   refine aE<|ay<|rt J (fF<|a4 j ⟨Y,?_⟩ vk<|wk ⟨sR J,sE J<|jQ (Y:((j+1:G):V)-1=(j:V)),fp⟩ fp) (hp:=lQ)
   .rw[<-a,lC,q h2]
  .have h2:(I xs j 0).num≠0:=by have h2:gH (I xs (af<|((j+1:G):V)-1) 0).num≠0:=pN h2;rw[i]at h2;exact λg=>h2 (yC.2 g)
   exact bs<|aS<|U J (bX<|ahJ cq J<|d<|by rw[lC,y h2]) (hp:=aH)
 .have b:k=0:=by have b:¬(k:V)>0:=bc b;omega
  subst b;exact M J<|F J (λh2=>pO)<|λ_=>bs<|aS<|U J (bX<|ahJ cq J<|d J) (hp:=aH)
def kz(a:E L):E L:=gI<|0::a
def YA(a:E L)(d:Z a<=1000):w O 88 [e .q a] (e .q<|kz a):=by
 refine aK Tryz.func88 ?_;refine U J<|R<|rc J J (nH 0 S S)<|gV .q [((0:V):L)] J J (M J<|R<|ra J J J J J J J J J ?_ ?_<|rcc (conc:=[]) (fm:=[(2002000,.vec 44 .q<|((0:V):L)::a)]) J J (auj _ RJ) (λf b h=>rfl)<|M J<|cN J)
 .show(1+Z a+(1+Z a)/4+192)*64<=_;omega
 .show(1+Z a)*4<=_;omega
def oA(a b:E L):E L:=gI<|(bJ<|max (Z a)<|Z b).map λi=>I a i 0+I b i 0
def dJ(a:L)(b:E L):E L:=gI<|(bJ<|Z b).map λi=>a*I b i 0
def Il(f:G->L) i:(bJ<|i+1).map f=(bJ i).map f++[f i]:=by rw[AU,gf];rfl
def Md{k}a b(s:Z b<=1000)(g:QS k a)(l:∀i,QS k (I b i 0))(m:k<=500000000000):w O 43 [aQ a,e .q b] (e .q<|dJ a b):=by
 refine aK Tryz.func43 ?_;refine U J<|R<|gV .q [] J J (M J<|h<|U J<|ay<|bq (α:=G) (λi=>⟨[(1,e .q b),(2,.c<|.P 0 0),(5,.c<|.X 1000000),(6,c i)],[(0,.box 44 0<|av .q a),(1000000,.vec 44 .q<|(bJ i).map λi=>a*I b i 0)],10,[]⟩) (λi=>i<=Z b) (λi=>Z b-i) 0 (bg _) (wk ⟨sR J,sR J,sR J,sE J J,j⟩<|n5 J) ?_);intro i t;have n:Z ((bJ i).map λi=>a*I b i 0)=i:=au;refine h<|U J<|F J (λd=>?_)<|λd=>?_
 .have d:i<Z b:=by have d:(i:V)<(Z b:V):=aV d;omega
  have p:af ((i:V))=i:=cC i;refine aE<|h<|ay<|cG<|rc J J (ER a (I b (af<|(i:V)) 0) g (l _) m) (rl .q [a*I b (af<|(i:V)) 0] J J (ra J J J J J J J J J ?_ ?_<|M J<|fF<|aS<|rt J (hp:=aH)<|a4 (i+1) d (Y:Z b-(i+1)<Z b-i)<|Wk.trans (wk (st':=⟨[(1,e .q b),(2,.c<|.P 0 0),(5,.c<|.X 11008000),(6,c (i+1:G))],[(0,.box 44 0<|av .q a),(11008000,.vec 44 .q<|(bJ<|i+1).map λi=>a*I b i 0)],13,[]⟩) (bK J) ⟨bR J,bE J ?_,j⟩)<|Wk.trans (gZ 1000000 11008000 J J J) aN)) (hp:=aH)
  .show(Z ((bJ i).map λi=>a*I b i 0)+1+(Z ((bJ i).map λi=>a*I b i 0)+1)/4+192)*64<=_;omega
  .show(Z ((bJ i).map λi=>a*I b i 0)+1)*4<=_;omega
  .rw[Il,p]
 .have d:i=Z b:=by have d:¬(i:V)<(Z b:V):=bc d;omega
  subst d;exact oJ<|sf<|pB<|oK<|aS<|fq (Jz 1000000 J)<|R<|rc J J (EV _ Y)<|M J<|bX<|atR J
def RK{k}a b(t:Z a<=1000)(u:Z b<=1000)(l:∀i,QS k (I a i 0))(m:∀i,QS k (I b i 0))(n:k<=500000000000):w O 36 [e .q a,e .q b] (e .q<|oA a b):=by
 refine aK Tryz.func36 ?_;refine U J<|R<|gV .q [] J J (re J<|h<|U J ?_);obtain⟨M,g⟩:∃M,M=max (Z a) (Z b):=⟨_,J⟩;have p:(if(Z a:V)<(Z b:V)then(Z b:V)else(Z a:V))=(M:V):=by rw[g];split<;>omega
 refine ay<|bq (α:=G) (λi=>⟨[(0,e .q a),(1,e .q b),(5,.c<|.X 1000000),(6,c i)],[(1000000,.vec 44 .q<|(bJ i).map λi=>I a i 0+I b i 0)],10,[]⟩) (λi=>i<=M) (λi=>M-i) 0 (bg _) (wk ⟨sR J,sR J,sR J,sE J J,j⟩ ⟨bR J,j⟩) ?_;intro i v;have s:Z ((bJ i).map λi=>I a i 0+I b i 0)=i:=au;refine h<|U J<|F J (λd=>?_)<|λd=>?_
 .have d:i<M:=by have d:(i:V)<_:=aV d;rw[q J]at d;split at d<;>omega
  refine aE<|h<|ay<|cG<|rc J J (ahZ a i)<|rc J J (ahZ b i)<|rc J J (Yu (I a i 0) (I b i 0) (l i) (m i) n)<|rl .q [I a i 0+I b i 0] J J (ra J J J J J J J J J ?_ ?_<|re J<|fF<|aS<|rt J (hp:=aH)<|a4 (i+1) d zM<|Wk.trans (wk (st':=⟨[(0,e .q a),(1,e .q b),(5,.c<|.X 11009000),(6,c (i+1:G))],[(11009000,.vec 44 .q<|(bJ<|i+1).map λi=>I a i 0+I b i 0)],13,[]⟩) (bK J) ⟨bE J ?_,j⟩)<|Wk.trans (gZ 1000000 11009000 J J J) aN)
  .show(Z ((bJ i).map λi=>I a i 0+I b i 0)+1+(Z ((bJ i).map λi=>I a i 0+I b i 0)+1)/4+192)*64<=_;omega
  .show(Z ((bJ i).map λi=>I a i 0+I b i 0)+1)*4<=_;omega
  .rw[Il]
 .have d:i=M:=by have d:¬(i:V)<_:=bc d;rw[q J]at d;split at d<;>omega
  subst d;subst g;exact oJ<|sf<|pB<|oK<|aS<|fq (Jz 1000000 J)<|R<|rc J J (EV _ Y)<|re J<|bX<|atR J
def EW l i:I (gI l) i 0=I l i 0:=by have:=bm (λA:Rx=>A i)<|Rx.uu l;exact this
def ah0(f:G->L) n i:I ((bJ n).map f) i 0=if i<n then f i else 0:=by
 rw[aO,ju];by_cases h:i<n
 .rw[k7 h,q h];rfl
 .rw[iw cd,y h];rfl
def RL a b i:I (oA a b) i 0=I a i 0+I b i 0:=by
 rw[oA,EW,ah0];split
 .rfl
 .rw[Rx.fP a Y,Rx.fP b Y,nM]
def vF a b i:I (dJ a b) i 0=a*I b i 0:=by
 rw[dJ,EW,ah0];split
 .rfl
 .rw[Rx.fP b Y,eh]
def YB a i:I (kz a) i 0=I (0::a) i 0:=EW _ i
def YC a b:Rx.lx (oA a b)=Rx.lx a+Rx.lx b:=Rx.ext λi=>RL a b i
def xj a b:Rx.lx (dJ a b)=Rx.K a*Rx.lx b:=Rx.ext λi=>by rw[Rx.du];exact vF a b i
def auk a:Rx.lx (kz a)=Rx.X 1*Rx.lx a:=by rw[kz,Rx.uu,Rx.B1,Rx.jT,Rx.iI]
def uw l:Z (gI l)<=Z l:=Yv
def lH(a b:E L):G->E L
 |0=>[]
 |d+1=>oA (kz<|lH a b d)<|dJ (I a (Z a-1-d) 0) b
def aul(a:E L){b}(d:b<Z a):az (Z a-(b+1)) a=I a (Z a-1-b) 0::az (Z a-b) a:=by rw[tU (Y:Z a-(b+1)<Z a),(Y:Z a-(b+1)+1=Z a-b),aO,df (Y:Z a-1-b<Z a)];simp only[(Y:Z a-(b+1)=Z a-1-b)];rfl
def YD(a b:E L):∀d,d<=Z a->Rx.lx (lH a b d)=Rx.lx (az (Z a-d) a)*Rx.lx b
 |0,_=>by rw[lH,DY,List.drop_length,Rx.ku,Rx.dy]
 |d+1,f=>by rw[lH,YC,auk,xj,YD a b d Y,aul a Y,Rx.B1,Rx.gQ,Rx.dc,Rx.jS]
def aum a b d:Rx.bp (lH a b d):=by
 cases d with
 |zero=>exact Rx.ug
 |succ d=>exact Rx.jV _
def ah1(a b:E L):∀d,Z (lH a b d)<=d+Z b
 |0=>by simp[lH]
 |d+1=>by
  have k:=ah1 a b d;have f:=uw<|0::lH a b d;have l:Z (dJ (I a (Z a-1-d) 0) b)<=Z b:=by have:=uw<|(bJ<|Z b).map λi=>I a (Z a-1-d) 0*I b i 0;simpa[dJ]using this
  have g:=uw<|(bJ<|max (Z<|kz<|lH a b d)<|Z<|dJ (I a (Z a-1-d) 0) b).map λi=>I (kz<|lH a b d) i 0+I (dJ (I a (Z a-1-d) 0) b) i 0;rw[dj,sY]at g;rw[jg]at f;have m:Z (lH a b<|d+1)<=max (Z<|kz<|lH a b d) (Z<|dJ (I a (Z a-1-d) 0) b):=g;have n:Z (kz<|lH a b d)<=Z (lH a b d)+1:=f;omega
def aun{k}{a}(b:1<=k)(d:∀i,QS k (I a i 0)) i:QS k (I (0::a) i 0):=by
 cases i with
 |zero=>exact QS.zero b
 |succ i=>exact d i
def auo{k K}(v:1<=K)(s:2*k<=K)(x:K<=200000000000) a b(z:Z a<=12)(A:Z b<=100)(m:∀i,QS k (I a i 0))(n:∀i,QS k (I b i 0))(hQ:∀d,d<=Z a->∀i,QS K (I (lH a b d) i 0)):w O 34 [e .q a,e .q b] (e .q<|lH a b<|Z a):=by
 refine aK Tryz.func34 ?_;refine U J<|R<|gV .q [] J J (M J<|h<|U J<|fq (Jz 1000000 J)<|ay<|bq (α:=G) (λd=>⟨[(0,e .q a),(1,e .q b),(5,e .q<|lH a b d),(6,c<|(Z a:V)-1-d)],[],10,[]⟩) (λd=>d<=Z a) (λd=>Z a-d) 0 (bg _) (wk ⟨sR J,sR J,sE J J,sE J ?_,j⟩ j) ?_)
 .exact bm c Y
 intro d B;refine h<|U J<|F J (λf=>?_)<|λf=>?_
 .have f:d<Z a:=by have f:(Z a:V)-1-(d:V)>=0:=aV f;omega
  have t:af ((Z a:V)-1-(d:V))=Z a-1-d:=Y;have C:=ah1 a b d;have u:Z (dJ (I a (af<|(Z a:V)-1-(d:V)) 0) b)<=Z b:=by have:=uw<|(bJ<|Z b).map λi=>I a (af<|(Z a:V)-1-(d:V)) 0*I b i 0;simpa[dJ]using this
  have p:Z (kz<|lH a b d)<=Z (lH a b d)+1:=by have:=uw<|0::lH a b d;rwa[jg]at this
  have l:=RK (k:=K) (kz<|lH a b d) (dJ (I a (af<|(Z a:V)-1-(d:V)) 0) b) Y Y (λi=>by rw[YB];exact aun Y (hQ d Y) i) (λi=>by rw[vF];exact((m _).mul<|n i).le Y) Y;refine aE<|h<|ay<|cG<|rc J J (YA (lH a b d) Y)<|rc J J (Md (k:=k) (I a (af<|(Z a:V)-1-(d:V)) 0) b Y (m _) n Y) (rc J J l<|M J<|fF<|aS<|rt J (hp:=aH)<|a4 (d+1) f (Y:Z a-(d+1)<Z a-d)<|wk ⟨sR J,sR J,sE J ?_,sE J<|bm c Y,j⟩ j) (hp:=aH)
  .rw[t];rfl
 .have f:d=Z a:=by have f:¬(Z a:V)-1-(d:V)>=0:=bc f;omega
  subst f;exact bs<|aS<|U J<|cN J
namespace Rx
def Aw(a:G)(D:V)(A:Rx):Prop:=∀i,∃z:V,aC z<=a/\(D:L)*A i=(z:L)
def Ht(a:G)(A:Rx):Prop:=∃D:V,D≠0/\aC D<=a/\Aw a D A
def Cn{D:V}(a:D≠0):(D:L)≠0:=λe=>a<|Ia.1 e
def Aw.le{a N}{D}{A}(b:Aw a D A)(k:a<=N):Aw N D A:=λi=>by let ⟨z,d,h2⟩:=b i;exact⟨z,br d k,h2⟩
def Ht.le{a N}{A}(b:Ht a A)(k:a<=N):Ht N A:=by let ⟨D,d,h2,f⟩:=b;exact⟨D,d,br h2 k,f.le k⟩
def Ht.zero{a}(b:1<=a):Ht a 0:=⟨1,S,b,λ_=>⟨0,bg _,eh _⟩⟩
def Ht.qs{b s}{A}(k:Ht b A)(p:b<4294967296^s) i:QS s (A i):=by
 let ⟨D,l,f,m⟩:=k;let ⟨z,g,d⟩:=m i;have a:∀(D z:V),0<D->aC D<=b->aC z<=b->(D:L)*A i=(z:L)->QS s (A i):=by
  intro D z n f g d;have e:kQ z D=A i:=by have t:=k8 _<|Cn (Y:D≠0);rw[QQ,s',<-d];grind
  rw[<-e];exact L5 n (Y:aC z<4294967296^s) (Y:aC D<4294967296^s)
 rcases Int.lt_trichotomy D 0 with e|e|e
 .exact a (-D) (-z) Y Y Y (by rw[EX,EX,<-d];grind)
 .exact aF e l
 .exact a D z e f g d
def tj{a b}{d N}(f:aC a<=d)(k:aC b<=N):aC (a*b)<=d*N:=by rw[tZ];exact mA f k
def Ht.sub{a N}{A B}(d:Ht a A)(k:Ht N B):Ht (2*(a*N)) (A-B):=by
 let ⟨D,f,h2,g⟩:=d;let ⟨E,l,b,m⟩:=k;refine⟨D*E,B5 f l,kw<|tj h2 b,λi=>?_⟩;let ⟨z,n,p⟩:=g i;let ⟨w,s,t⟩:=m i;refine⟨z*E-D*w,?_,?_⟩
 .have u:=tj n b;have v:=tj h2 s;omega
 .rw[nK,g7,LJ,g7,g7,<-p,<-t];grind
def Ht.bH{b n}{A}(d:Ht b A)(m:sz A<=n)(a:1<=n):Ht (n*b) (bH A):=by
 let ⟨D,f,h2,g⟩:=d;refine⟨D,f,kw<|mA a h2,λi=>?_⟩;by_cases p:n<=i+1
 .exact⟨0,bg _,by rw[s7,lE Y,eh,eh];rfl⟩
 .let ⟨z,k,l⟩:=g<|i+1;refine⟨((i+1:G):V)*z,tj Y k,?_⟩;rw[s7,g7,<-l,uj];grind
def Ht.aup{a k}{A}(f:Ht a A)(g:A k≠0):Ht a (K (A k)⁻¹ *A):=by
 let ⟨D,l,h2,b⟩:=f;let ⟨w,m,d⟩:=b k;have n:w≠0:=λe=>by
  subst e;rcases Ab.1 (d.trans ahF)with e|e
  .exact Cn l e
  .exact g e
 refine⟨w,n,m,λi=>?_⟩;let ⟨z,p,s⟩:=b i;refine⟨z,p,?_⟩;rw[du,<-d,<-s];grind
def Ht.smul{a N}{A}{b}(f:Ht a A)(k:Ht N (K b)):Ht (a*N) (K b*A):=by let ⟨D,g,h2,l⟩:=f;let ⟨E,m,n,p⟩:=k;refine⟨D*E,B5 g m,tj h2 n,λi=>?_⟩;let ⟨z,s,t⟩:=l i;let ⟨w,u,d⟩:=p 0;refine⟨z*w,tj s u,?_⟩;rw[lS,q J]at d;rw[du,g7,g7,<-t,<-d];grind
def ah2{a b:E L}{n m k N:G}(H:Z b=n+1)(P:Z a=n+m)(u:I b n 0≠0)(Q:Ht k (lx a))(T:Ht N (lx b)):∀d,d<=m->
  ∃D:V,D≠0/\aC D<=k*(2*N)^d/\Aw (k*(2*N)^d) D (lx (eF (I b n 0)⁻¹ a b n m d).1)/\Aw (k*(2*N)^d) D (lx (eF (I b n 0)⁻¹ a b n m d).2)
 |0,_=>by let ⟨D,W,h2,h3⟩:=Q;rw[qx,rh];refine⟨D,W,h2,λi=>⟨0,bg _,?_⟩,h3⟩;show(D:L)*I (bx m (0:L)) i 0=_;rw[L9,eh];rfl
 |d+1,R=>by
  let ⟨D,d1,d2,d3,d4⟩:=ah2 H P u Q T d Y;let ⟨v,c,h,K⟩:=T;let ⟨β,A,p⟩:=K n;let ⟨_,q0,_⟩:=Yy H P u d Y;let ⟨l1,l2⟩:=As (I b n 0)⁻¹ a b n m d;have B:β≠0:=λe=>by
   subst e;rcases Ab.1 (p.trans ahF)with e|e
   .exact Cn c e
   .exact u e
  have l:(β:L)*(I b n 0)⁻¹ =(v:L):=by have p:(v:L)*I b n 0=(β:L):=p;rw[<-p];grind
  rw[eF,fG,<-mz];generalize eF (I b n 0)⁻¹ a b n m d=x at*;generalize k*(2*N)^d=X at*;let ⟨o,r⟩:=x;simp only at d3 d4 q0 l1 l2⊢;let ⟨t,t1,s⟩:=d4<|m-1-d+n;have s:(D:L)*I r (m-1-d+n) 0=(t:L):=s;have f:X*N<=X*(2*N):=gD X Y;have F:X*(2*N)=X*N+X*N:=by rw[Nat.two_mul,yk]
  refine⟨D*β,B5 d1 B,br (tj d2 A) f,λi=>?_,λi=>?_⟩
  .rw[dN,EO i _ Y];by_cases e:m-1-d=i
   .rw[q e];refine⟨t*v,br (tj t1 h) f,?_⟩;rw[g7,g7,<-s,<-l];grind
   .rw[y e];let ⟨z,C,g⟩:=d3 i;have g:(D:L)*I o i 0=(z:L):=g;refine⟨z*β,br (tj C A) f,?_⟩;rw[g7,g7,<-g];grind
  .rw[Mb _ Y,ef,du,lD];let ⟨z,C,g⟩:=d4 i;have S:=tj C A;by_cases e:m-1-d<=i
   .rw[q e];let ⟨w,J,O⟩:=K<|i-(m-1-d);have U:=tj t1 J;refine⟨z*β-t*w,Y,?_⟩;rw[LJ,g7,g7,g7,<-g,<-O,<-s,<-l];grind
   .rw[y e];refine⟨z*β,Y,?_⟩;rw[g7,g7,<-g];grind
def Aw.take{b}{D}{a}(d:Aw b D (lx a)) n:Aw b D (lx<|r n a):=λi=>by
 rw[dN,Ij];split
 .exact d i
 .exact⟨0,bg _,eh _⟩
def EY{a b}{t u}(p:bp b)(f:b≠[])(i:Ht (2^t) (lx a))(s:Ht (2^u) (lx b)):Ht (2^(t+(u+1)*(a.length+1-b.length))) (lx<|cV a b)/\Ht (2^(t+(u+1)*(a.length+1-b.length))) (lx<|bZ a b)/\
  (b.length<=a.length->∀d,d<=a.length+1-b.length->Ht (2^(t+(u+1)*(a.length+1-b.length))) (lx (eF (b.getD (b.length-1) 0)⁻¹ a b (b.length-1) (a.length+1-b.length) d).2)):=by
 have v:=cF.2 f
 unfold cV bZ
 by_cases h:a.length<b.length
 .rw[q h,q h];refine⟨Ht.zero<|gG S,i.le<|dD S<|RM _ _,λx=>aF h Y⟩
 .rw[y h,y h,uu,uu];have g:=ah2 (a:=a) (b:=b) (n:=b.length-1) (m:=a.length+1-b.length) Y Y (p.ne f) i s;have k:∀d,2^t*(2*2^u)^d=2^(t+(u+1)*d):=λd=>by rw[show 2*2^u=2^(u+1)by rw[fG,gA],<-Ek,<-jm]
  let ⟨D,d1,d2,d3,d4⟩:=g _<|aL _;rw[k]at d2 d3 d4;refine⟨⟨D,d1,d2,d3⟩,⟨D,d1,d2,d4.take _⟩,λ_ d l=>?_⟩;let ⟨D,d1,d2,d3,d4⟩:=g d l;rw[k]at d2 d3 d4;exact Ht.le ⟨D,d1,d2,d4⟩<|dD S<|RN (gD _ l) _
def YE{a}{d}(f:bp a)(k:Ht d (lx a)):Ht d (lx<|dA a):=by
 by_cases b:a=[]
 .subst b;rw[Mc];exact k
 .rw[vE b];exact k.aup (k:=Z a-1)<|f.ne b
def RO n{k}(a:k<=n):2^k<=2^n:=dD S a
def mO{t s}(a:t<32*s):2^t<4294967296^s:=by rw[(S:(4294967296:G)=2^32),<-Ek];exact XP S a
def three{d}:1<=d->d+2<=3^d:=by
 intro h;induction d with
 |zero=>omega
 |succ d a=>
  by_cases e:d=0
  .subst e;decide
  .have:=a Y;rw[fG];omega
def RP{a b}(d:b≠[]):Z (dA<|bZ a b)<Z b\/dA (bZ a b)=[]:=by
 by_cases h:bZ a b=[]
 .right;rw[h,Mc]
 .left;have:=nS (a:=a) d;unfold dA;rw[y h];refine wV (ES _) ?_;rw[uq,dj];exact this
def ah3{s:G}:∀(k t:G)(a b:E L),bp a->bp b->Z b<k->(b=[]\/Z b<Z a)->Z a<=500->Ht (2^t) (lx a)->Ht (2^t) (lx b)->(t+1)*3^Z a<=32*s->
  Cj s k a b/\(∀i,QS s (I (fX k a b) i 0))/\Z (fX k a b)<=500
 |0,_,_,_,_,_,f,_,_,_,_,_=>by omega
 |k+1,t,a,b,v,m,D,g,la,hA,hB,H=>by
  have x:0<3^Z a:=gG S;have n:t<32*s:=kw<|gD (t+1) (show 1<=3^Z a from x)
  rw[Cj,fX];split
  next e=>exact⟨.inl e,λi=>hA.qs (mO n) i,la⟩
  .rename_i e;have g:=g.resolve_left e;have K:=cF.2 e;let ⟨q1,p,z⟩:=EY m e hA hB;have A:t+(t+1)*(Z a+1-Z b)+1=(t+1)*(Z a-Z b+2):=by rw[(Y:Z a+1-Z b=Z a-Z b+1),(Y:Z a-Z b+2=Z a-Z b+1+1),yk (t+1) (Z a-Z b+1) 1];omega
   have N:(t+1)*(Z a-Z b+2)*3^Z b<=(t+1)*3^Z a:=by have:=three (d:=Z a-Z b) Y;rw[mz];refine gD _<|br (dS _ this) ?_;rw[<-jm,(Y:Z a-Z b+Z b=Z a)];exact aL _
   have u:=oZ (b:=b) v;have B:0<3^Z b:=gG S;have l:t+(t+1)*(Z a+1-Z b)<32*s:=kw<|gD ((t+1)*(Z a-Z b+2)) (show 1<=3^Z b from B)
   let ⟨i1,i2,i3⟩:=ah3 (s:=s) k (t+(t+1)*(Z a+1-Z b)) b (dA<|bZ a b) m (qC _) (by rcases RP (a:=a) e with f|f;omega;rw[f,qT];omega) ((RP (a:=a) e).symm) Y
    (hB.le<|dD S<|RM _ _) (YE u p) (by rw[A];omega)
   refine⟨.inr ⟨⟨la,Y,m.ne e,λi=>hB.qs (mO n) i,λj C i=>(z Y j C).qs (mO l) i,λf=>u.ne f,λi=>p.qs (mO l) i⟩,i1⟩,i2,i3⟩
end Rx
open Rx
noncomputable def pV(a:E (Rx×G)):G->G->E (Rx×V)
 |0,_=>[]
 |k+1,n=>(if 1<sz (pF (kP n) a)then[(pF (kP n) a,(n:V))]else[])++pV a k (n+1)
def YF{a:E (Rx×G)}:∀(k:G){n:G},(∀x∈a,x.2<n)->pV a k n=[]
 |0,_,_=>rfl
 |k+1,n,d=>by
  have f:pF (kP n) a=1:=QI λx b=>y (kw<|d x b)
  rw[pV,f,s6,y Y,YF k (λx b=>by have:=d x b;omega),ji]
def YG{A:Rx}(a:2<=sz A):∀n,n+1<=sz (pk A n)
 |0=>by rw[show pk A 0=1 from J,s6];omega
 |n+1=>by
  have b:A≠0:=λe=>by rw[e,kO]at a;omega
  have d:=YG a n;have f:pk A n≠0:=λe=>by rw[e,kO]at d;omega
  have:=eS f b;rw[pk];omega
def ah4{c:G->G}:∀{a:E (Rx×G)}{x:Rx×G},x∈a->pk x.1 (c x.2)∣pF c a
 |d::a,x,b=>by
  rw[pF];rcases b7.1 b with rfl|b
  .exact mH _ _
  .exact dE (ah4 b) _
def YH{a}(b:FL a){x}(d:x∈a):x.2<sz (pF id a):=by have g:=YG (b.gJ x d).1 x.2;have i:sz (pk x.1 x.2)<=sz (pF id a):=(k9 (ah4 (c:=id) d) (yx b.mo).ne);omega
end Go.El
