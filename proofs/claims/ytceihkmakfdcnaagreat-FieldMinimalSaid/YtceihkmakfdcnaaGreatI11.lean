/- Own work; no condition. -/
import Derived.Test.YtceihkmakfdcnaaGreatI10
import Derived.Test.YtceihkmakfdcnaaGreatI7
import Derived.Test.YtceihkmakfdcnaaGreatI9
import Derived.Test.YtceihkmakfdcnaaGreatI6
import Derived.Test.YtceihkmakfdcnaaGreatI3
import Derived.Test.YtceihkmakfdcnaaGreatI4
import Derived.Test.YtceihkmakfdcnaaGreatI5
set_option linter.all false
set_option maxHeartbeats 16000000
set_option maxRecDepth 100000
open Array renaming replicate->rR
open Bool renaming true->af,false->ak
open Go renaming Program->bO,Oper->a8,TypeId->eh
open Go.Builtin renaming copy_->agp
open Go.Deferred renaming ofValue->yJ
open Go.El renaming rr->e,cS->S,xe->F,iA->L,re->O,bA->h,cI->y,akB->R,rb->w
open Go.Proofs.Tryz renaming prog->r
open Int renaming gcd->iR,natAbs->aD,ediv_mul_cancel->ar5,toNat->ah
open List renaming replicate->bt,length->Z,take->c,getD->I,range->cy,map->Xu,drop->az
open Nat renaming Coprime->Xr,blt->dK,ble->eL
open Nat.Coprime renaming mul_right->ar6
open Option renaming some->ae
open Rat renaming divInt->kC,inv_def->agi
open _root_ renaming Nat->G,Rat->U,Int->V,List->E
namespace Go.El
open Go Go.Proofs Go.RowKit
structure QS(k:G)(r:U):Prop where
 n:aK k r.num
 d:aK k (r.den:V)
def QS.le{a k}{b}(f:QS a b)(g:a<=k):QS k b:=⟨f.n.le g,f.d.le g⟩
def Qx{a}:fU a<0↔a<0:=by unfold fU;split<;>(try split)<;>omega
def xY{a}:fU a=0↔a=0:=by unfold fU;split<;>(try split)<;>omega
def Lk{b}{n d}(f:b.num=n)(g:(b.den:V)=d):AV.a [C.B (cv n),C.S ao<|eX n,C.B<|cv d,C.S ao<|eX d]=aQ b:=by subst f g;rfl
def Xm{n d}(a:0<d):(kC n d).num=n/((iR n d:G):V)/\((kC n d).den:V)=d/((iR n d:G):V):=by have:=OV n d Y;rwa[j Y]at this
def Qy{n d}(a:0<d)(b:iR n d=1):(kC n d).num=n/\((kC n d).den:V)=d:=by have:=Xm (n:=n) a;rwa[b,show(((1:G):V))=1 from J,wg,wg]at this
def Xn n d(i:0<d)(k:Sm n)(a:Sm d):aq r 126 [aZ n,aZ d] (aQ<|kC n d):=by
 refine aS Tryz.func126 ?_;let ⟨p1,l⟩:=Xm (n:=n) i;have m:iR n d≠0:=λp=>by have:=(VE.1 p).2;omega
 have f:Sm ((iR n d:G):V):=bZ (uE<|show aD (((iR n d:G):V))<=aD d from Nat.gcd_le_right _ Y) a;refine e J<|h<|bL J J (Hp d) J<|F J (λb=>?_)<|λ_=>aG ?_
 .have b:d=1:=aX b;subst b;let ⟨c1,g⟩:=Qy (n:=n) o<|Int.gcd_one_right ..;exact e J<|bX<|da<|fO J<|Lk c1 g
 refine bL J J (ar2 n d k a) J<|h<|w<|rc J J (Hp _)<|O J<|F J (λb=>?_)<|λ_=>aG ?_
 .have b:((iR n d:G):V)=1:=aX b;let ⟨c1,g⟩:=Qy i<|Int.ofNat.inj b;exact e J<|bX<|da<|fO J<|Lk c1 g
 refine bL J J (aej n _ Y k f) J<|w<|rc J J (aej d _ Y a f)<|O J<|e J<|cd J<|Lk p1 l
def den_pos(a:U):0<(a.den:V):=by have:=a.den_nz;omega
def agf a(b:Sm a.num):aq r 71 [aQ a] (aQ<| -a):=by refine aS Tryz.func71 ?_;refine e J<|bL J J (VI a.num b) J<|cd J<|Lk J J
def Xo a:aq r 137 [aQ a] (y<|fU a.num):=by refine aS Tryz.func137 ?_;exact e J<|bL J J (adJ a.num) J<|di J
def ar4 n:aq r 123 [aZ n] (aQ (n:U)):=by refine aS Tryz.func123 ?_;exact e J<|bL J J (VH 1 o o) J<|cd J J
def Ll n(a: -9223372036854775808<=n)(b:n<=9223372036854775807):aq r 70 [y n] (aQ (n:U)):=by refine aS Tryz.func70 ?_;exact e J<|w<|rc J J (VH n a b)<|rc J J (ar4 n)<|O J<|di J
def agh a(g:a.num≠0)(i:Sm a.num)(k:Sm (a.den:V)):aq r 115 [aQ a] (.t [(af,av .q a⁻¹),(ak,[.I .i64 0])]):=by
 refine aS Tryz.func115 ?_;have d:iR (a.den:V) a.num=1:=by have:=a.reduced;rw[Int.gcd_comm];exact this
 refine e J<|h<|bL J J (adJ a.num) J<|aA<|e J<|F J (λb=>?_)<|λb=>?_
 .exfalso;have b:fU a.num=0:=eS b;exact g<|xY.1 b
 refine e J<|F J (λb=>?_)<|λb=>?_
 .have b:fU a.num= -1:=eS b;have b:a.num<0:=Qx.1 Y;have f:(a⁻¹).num= -(a.den:V)/\(((a⁻¹).den:G):V)= -a.num:=by
   rw[agi];have:=OV (a.den:V) a.num g;rw[q b,d]at this;rw[this.1,this.2];constructor
   .rw[show-(((1:G):V))= -1 from J,Du,wg]
   .rw[show-(((1:G):V))= -1 from J,Du,wg]
  refine w<|rc J J (VI (a.den:V) k)<|rc J J (VI a.num i)<|O J<|bX ?_;repeat(first|refine da ?_|refine mz ?_|refine m0 ?_)
  refine fO J ?_;show AV.t [(af,[C.B (cv<| -(a.den:V)),C.S ao<|eX<| -(a.den:V),C.B<|cv<| -a.num,C.S ao<|eX<| -a.num]),(ak,[C.I .i64 0])]=_;rw[<-f.1,<-f.2];rfl
 .have b:¬fU a.num= -1:=pa b;have b:0<a.num:=by
   unfold fU at b;split at b
   .omega
   .omega
  have f:(a⁻¹).num=(a.den:V)/\(((a⁻¹).den:G):V)=a.num:=by rw[agi];exact Qy b d
  refine dk<|bU ?_;refine e J<|cd J ?_;show AV.t [(af,[C.B (cv (a.den:V)),C.S ao<|eX (a.den:V),C.B<|cv a.num,C.S ao<|eX a.num]),(ak,[C.I .i64 0])]=_;rw[<-f.1,<-f.2];rfl
def agj{k}a b(f:QS k a)(g:QS k b)(B:k<=500000000000):aq r 77 [aQ a,aQ b] (aQ<|a+b):=by
 refine aS Tryz.func77 ?_;have s:=f.n.mul g.d;have t:=g.n.mul f.d;have u:=f.d.mul g.d;have v:=s.add t;have m:=f.n.sm Y;have i:=f.d.sm Y;have p:=g.n.sm Y;have l:=g.d.sm Y;have x:=Dw (den_pos a)<|den_pos b;have A:kC (a.num*(b.den:V)+b.num*(a.den:V)) ((a.den:V)*(b.den:V))=a+b:=by have C:=den_pos a;have D:=den_pos b;rw[<-Xp _ _ Y Y,po,po]
 rw[<-A];refine e J<|w<|rl .z [a.num,(b.den:V)] J J (rc J J (Lj _ _ m l)<|rl .z [b.num,(a.den:V)] J J (rc J J (Lj _ _ p i)<|rc J J (ap6 _ _ (s.sm Y)<|t.sm Y)<|O J ?_));exact w<|rl .z [(a.den:V),(b.den:V)] J J (rc J J (Lj _ _ i l)<|rc J J (Xn _ _ x (v.sm Y)<|u.sm Y)<|O J<|di J)
def agk{a b f d}(i:iR a b=1)(k:f∣a)(l:d∣b):iR f d=1:=by have g:((iR f d:G):V)∣((iR a b:G):V):=Int.dvd_coe_gcd (K2 (Int.gcd_dvd_left ..) k)<|K2 (VD ..) l;rw[i]at g;have:=Int.ofNat_dvd.1 g;exact Nat.dvd_one.1 this
def Xq{n d}(a:0<d):(kC n d).num∣n/\(((kC n d).den:G):V)∣d:=by let ⟨b,h2⟩:=Xm (n:=n) a;rw[b,h2];exact⟨⟨_,(ar5<|Int.gcd_dvd_left ..).symm⟩,⟨_,(ar5<|VD ..).symm⟩⟩
def aK.dvd{n}{a b}(f:aK n a)(d:b∣a)(g:a≠0):aK n b:=by have:=uG Y<|Kv.2 d;unfold aK at*;omega
def Lm{k}{n d}(a:0<d)(b:aK k n)(f:aK k d):QS k (kC n d):=by
 let ⟨g,h2⟩:=Xq (n:=n) a;refine⟨?_,f.dvd h2 Y⟩;by_cases e:n=0
 .subst e;rw[Rat.zero_divInt];exact aK.zero _
 .exact b.dvd g e
def QS.add{k}{a b}(f:QS k a)(g:QS k b):QS (2*k+1) (a+b):=by
 have i:=den_pos a;have l:=den_pos b;have e:kC (a.num*(b.den:V)+b.num*(a.den:V)) ((a.den:V)*(b.den:V))=a+b:=by rw[<-Xp _ _ Y Y,po,po]
 rw[<-e];exact Lm (Dw i l) (((f.n.mul g.d).add<|g.n.mul f.d).le Y)<|(f.d.mul g.d).le Y
def QS.mul{k}{a b}(f:QS k a)(g:QS k b):QS (2*k) (a*b):=by
 have i:=den_pos a;have l:=den_pos b;have e:kC (a.num*b.num) ((a.den:V)*(b.den:V))=a*b:=by rw[<-Hq,po,po]
 rw[<-e];exact Lm (Dw i l) ((f.n.mul g.n).le Y)<|(f.d.mul g.d).le Y
def QS.neg{k}{a}(b:QS k a):QS k (-a):=⟨b.n.neg,b.d⟩
def Qz{k}a b(f:QS k a)(g:QS k b)(hk:k<=500000000000):aq r 72 [aQ a,aQ b] (aQ<|a*b):=by
 refine aS Tryz.func72 ?_;have m:=f.n.sm Y;have p:=f.d.sm Y;have s:=g.n.sm Y;have t:=g.d.sm Y;have A:=Lm (n:=a.num) (den_pos b) f.n g.d;have B:=Lm (n:=b.num) (den_pos a) g.n f.d;let ⟨l1,l2⟩:=Xq (n:=a.num)<|den_pos b;let ⟨r1,C⟩:=Xq (n:=b.num)<|den_pos a;have u:=Xn a.num (b.den:V) (den_pos b) m t;have v:=Xn b.num (a.den:V) (den_pos a) s p;have D:kC a.num (b.den:V)*kC b.num (a.den:V)=a*b:=by rw[Hq,fo (b.den:V),<-Hq,po,po]
 have H:iR a.num (a.den:V)=1:=a.reduced;have K:iR b.num (b.den:V)=1:=b.reduced;generalize kC a.num (b.den:V)=L at*;generalize kC b.num (a.den:V)=R at*;have x:iR (L.num*R.num) ((L.den:V)*(R.den:V))=1:=by have i:iR L.num (L.den:V)=1:=L.reduced;have l:iR R.num (R.den:V)=1:=R.reduced;have N:=agk H l1 C;have P:=agk K r1 l2;have Q:Xr (aD L.num) L.den:=i;have T:Xr (aD R.num) R.den:=l;have W:Xr (aD L.num) R.den:=N;have X:Xr (aD R.num) L.den:=P;show Nat.gcd (aD<|L.num*R.num) (aD<|(L.den:V)*(R.den:V))=1;rw[pX,pX];exact Nat.Coprime.mul_left (ar6 Q W)<|ar6 X T
 let ⟨i,l⟩:=Qy (Dw (den_pos L)<|den_pos R) x;rw[<-Hq,po,po,D]at i l;refine e J<|bL J J u J<|w<|rc J J v<|O J ?_;refine w<|rl .z [L.num,R.num] J J (rc J J (Lj _ _ (A.n.sm Y)<|B.n.sm Y)<|rl .z [(L.den:V),(R.den:V)] J J (rc J J (Lj _ _ (A.d.sm Y)<|B.d.sm Y)<|O J<|cd J<|Lk i l))
def px(a b:U):V:=if a<b then-1 else if b<a then 1 else 0
abbrev ZZ:ET:= .pr .z .z
def qz(a:U):V×V:=(a.num,(a.den:V))
def QA k(l:E U):lS (.vec k ZZ<|l.map qz) (.vec k .q l):=by
 refine⟨λN g W x h=>?_,λ_ h=>gD⟩;rcases h with⟨a,d⟩|⟨b,f,vs,a,d,p,m,n,s,t,u⟩
 .exact .inl ⟨a,List.map_eq_nil_iff.1 d⟩
 .rw[c7]at a m n;refine .inr ⟨b,f,vs,a,d,p,m,n,λi v=>?_,t,u⟩;have:=s i (by rw[c7];exact v);rw[CA]at this;exact this
def agl(f:E U):bq (.c<|.S .q f) (.c<|.S ZZ<|f.map qz):=by
 refine⟨λg v h=>?_,λ_ h=>by simpa[AV.al,C.al]using h⟩;obtain⟨a,k,m,n,p,d⟩:mQ (de g.H .q) 4 g.H f v:=h;refine⟨a,k,by rw[c7];exact m,by rw[c7];exact n,by rw[c7];exact p,?_⟩;rcases d with d|⟨b,off,e,d⟩
 .exact .inl (by rw[d];rfl)
 .refine .inr ⟨b,off,e,λi l=>?_⟩;rw[c7]at l;let ⟨cs,c1,s,t⟩:=d i l;exact⟨cs,c1,by rw[CA];exact s,t⟩
def ar7{d:Type}(a b:d){i n}(f:i<n):(bt i a++bt (n-i) b).set i a=bt (i+1) a++bt (n-(i+1)) b:=by rw[Pf _ _ ax,gQ,jA,(Y:n-i=(n-(i+1))+1),Aw,VO,List.replicate_succ',mX];rfl
def QB(n:G)(d:n<=1000):pS r 118 [y n] 44 .q (bt n 0):=by
 refine JO Tryz.func118 J J J J o ?_;refine e J<|w<|rm ZZ n J J J J J J U4 J ?_ ?_<|O J<|h<|e J ?_
 .show n*64<=_;omega
 .show n*4<=_;omega
 refine aA<|bx (α:=G) (λi=>⟨[(3,.c<|.X 1001000),(7,y n),(8,y i)],[(1001000,.vec 44 ZZ<|bt i (0,1)++bt (n-i) (0,0))],3,[]⟩) (λi=>i<=n) (λi=>n-i) 0 (bm _) (wk (bP J) ⟨bE J J,M⟩) ?_;intro i f;refine e J<|h<|F J (λa=>?_)<|λa=>?_
 .have a:i<n:=by have a:(i:V)<(n:V):=aX a;omega
  have b:Z (bt i ((0,1):V×V)++bt (n-i) (0,0))=n:=b6;refine dk<|aR<|h<|aA<|e J<|cL<|rc J J (Ll 0 o o)<|vW ((0,1):V×V) J J J J J ?_ (O J<|bU<|rt J (hp:=aH)<|a6 (i+1) a QC<|wk (bP J) ⟨bE J ?_,M⟩) (hp:=?_)
  .show ah ((i:V))<_;rw[b];omega
  .refine bl (aC.vec 44 ZZ) ?_;show(bt i ((0,1):V×V)++bt (n-i) (0,0)).set (ah<|(i:V)) (0,1)=_;rw[cx,ar7 _ _ a]
  .show 0<=(i:V)/\(i:V)<(Z (bt i ((0,1):V×V)++bt (n-i) (0,0)):V);rw[b];omega
 .have a:i=n:=by have a:¬(i:V)<(n:V):=bh a;omega
  subst a;refine bD<|aR ?_;refine fg (st':=⟨[(3,.c<|.X 1001000)],[(1001000,.vec 44 .q<|bt i 0)],4,[]⟩) (wk ⟨sR J,M⟩ ⟨⟨_,J,?_⟩,M⟩)<|e J<|bX<|JN (id:=1001000) cp J J;have:=QA 44<|bt i 0;rw[List.map_replicate]at this;rw[jA,Fs,iO];exact this
def Ln(xs:E U)(i:Z xs<=1000000):aq r 120 [S .q xs] (S .q<|gH xs):=by
 refine aS Tryz.func120 ?_;refine e J<|e J ?_;refine h<|aA<|bx (α:=G) (λk=>⟨[(0,S .q xs),(3,y k)],[],2,[]⟩) (λk=>k<=Z xs/\ln xs k=ln xs (Z xs)) (λk=>k) (Z xs) ⟨aN _,J⟩ aY ?_;rintro k ⟨l,a⟩;have d:ln xs k=k->bq (S .q<|c k xs) (S .q<|gH xs):=λf=>by refine bq.of_eq ?_;unfold gH;rw[<-a,f]
 refine h<|w ?_;refine rg 8 J J (λb=>?_)<|λb=>?_
 .have b:0<k:=by have b:(k:V)>0:=aX b;omega
  obtain⟨j,rfl⟩:∃j,k=j+1:=⟨k-1,Y⟩;have g:ah (((j+1:G):V)-1)=j:=Y;refine mD J J J J J (Xo<|I xs (ah<|((j+1:G):V)-1) 0) (O J ?_) (hp:=lB);refine F J (λh2=>?_)<|λh2=>?_
  .have h2:(I xs j 0).num=0:=by have h2:fU (I xs (ah<|((j+1:G):V)-1) 0).num=0:=eS h2;rw[g]at h2;exact xY.1 h2
   refine aG<|aA<|rt J (fT<|a6 j ⟨Y,?_⟩ uD<|wk ⟨sR J,sE J ?_,M⟩ M) (hp:=lB)
   .rw[<-a,ln,q h2]
   .exact jC (Y:((j+1:G):V)-1=(j:V))
  .have h2:(I xs j 0).num≠0:=by have h2:fU (I xs (ah<|((j+1:G):V)-1) 0).num≠0:=pa h2;rw[g]at h2;exact λf=>h2 (xY.2 f)
   exact bD<|aR<|e J (bX<|iZ cp J<|d<|by rw[ln,ma h2]) (hp:=aH)
 .have b:k=0:=by have b:¬(k:V)>0:=bh b;omega
  subst b;exact O J<|F J (λh2=>sc)<|λ_=>bD<|aR<|e J (bX<|iZ cp J<|d J) (hp:=aH)
def py(a:E U)(d:U)(b:E U)(k m:G):E U:=(cy<|Z a).map λi=>if k<=i/\i<k+m then I a i 0+d*I b (i-k) 0 else I a i 0
def kD(a:E U)(d:U)(b:E U)(k:G):E U:=py a d b k<|Z b
def oG(a d b k m):Z (py a d b k m)=Z a:=by simp[py]
def wK{a}{d}{b}{k m i}(f:i<Z a):I (py a d b k m) i 0=if k<=i/\i<k+m then I a i 0+d*I b (i-k) 0 else I a i 0:=by unfold py;rw[aO,jn,lp f];rfl
def Lo{a b:E U}(f:Z a=Z b)(g:∀i,i<Z a->I a i 0=I b i 0):a=b:=by
 refine vz f λi d k=>?_
 have:=g i d;rwa[aO,cT d,aO,cT k]at this
def ar8(a f b k):py a f b k 0=a:=Lo (oG ..) λi d=>by rw[oG]at d;rw[wK d,j Y]
def ar9(a b k):kD a 0 b k=a:=Lo (oG ..) λi d=>by
 unfold kD at*;rw[oG]at d;rw[wK d];split
 .rw[ni,oC]
 .rfl
def D1{l}{i}a(x:U)(b:i<Z l):(l.set i x).getD a 0=if i=a then x else I l a 0:=by
 rw[aO,Vt];by_cases e:i=a
 .subst e;rw[q J,q J,q b];rfl
 .rw[j e,j e,aO]
def ar'{a}{d}{b}{k m}(l:k+m<Z a):(py a d b k m).set (k+m) (I a (k+m) 0+d*I b m 0)=py a d b k (m+1):=Lo (by rw[oQ,oG,oG]) λi f=>by
 rw[oQ,oG]at f;rw[D1 _ _ (by rw[oG];exact l),wK f,wK f];by_cases e:k+m=i
 .subst e;rw[q J,q Y,Kk]
 .rw[j e];by_cases g:k<=i/\i<k+m
  .rw[q g,q Y]
  .rw[j g,j Y]
def asa{d}{f}{b}{k m}(l:I b m 0=0):py d f b k m=py d f b k (m+1):=Lo (by rw[oG,oG]) λi a=>by
 rw[oG]at a;rw[wK a,wK a];by_cases e:i=k+m
 .subst e;rw[j Y,q Y,Kk,l,dU,oC]
 .by_cases g:k<=i/\i<k+m
  .rw[q g,q Y]
  .rw[j g,j Y]
def BD{a:U}(b:a.num=0):a=0:=Rat.num_eq_zero.1 b
def QD{s}(H:s<=200000000000) f a b k(N:k+Z b<=Z f)(A:Z f<=1000)(B:∀i,QS s (I f i 0))(v:QS s a)(D:∀i,QS s (I b i 0)):
  vX r 119 [.c (.X 0),aQ a,S .q b,y k] 44 .q f (.t []) (kD f a b k):=by
 refine JP Tryz.func119 J J J J J o ?_
 refine e J<|h<|bL J J (Xo a) J<|F J (λd=>?_)<|λd=>aG ?_
 .have d:fU a.num=0:=eS d;have d:a=0:=BD<|xY.1 d;subst d;rw[ar9];exact bX<|da<|AZ cp J (bq.refl _) J
 refine e J ?_
 refine aA<|bx (α:=G) (λm=>⟨[(0,.c<|.X 0),(3,y k),(5,.c<|.P 1000000 0),(13,S .q b),(14,y<|Z b),(15,y m)],[(0,.vec 44 .q<|py f a b k m),(1000000,.box 44 0<|av .q a)],4,[]⟩) (λm=>m<=Z b) (λm=>Z b-m) 0 (bm _) (wk (bP J) ⟨bE J ?_,bE J J,M⟩) ?_
 .rw[ar8]
 intro m C
 refine e J<|h<|F J (λd=>?_)<|λd=>?_
 .have d:m<Z b:=by have d:(m:V)<(Z b:V):=aX d;omega
  have x:ah ((m:V))=m:=cx m;have n:ah ((m:V)+(k:V))=k+m:=Y;have p:=oG f a b k m;have z:I (py f a b k m) (ah<|(m:V)+(k:V)) 0=I f (k+m) 0:=by rw[n,wK Y,j Y]
  have l:QS s (I b (ah<|(m:V)) 0):=D _;have u:QS (2*s) (I (py f a b k m) (ah<|(m:V)+(k:V)) 0):=by rw[z];exact(B _).le Y
  refine aG<|h<|aA<|e J<|bL J J (Xo<|I b (ah<|(m:V)) 0) J<|F J (λg=>?_)<|λg=>dk ?_
  .refine cL (rc J J (Qz a (I b (ah<|(m:V)) 0) v l Y) (rc J J (agj _ _ u (v.mul l) Y)<|vW (I (py f a b k m) (ah<|(m:V)+(k:V)) 0+a*I b (ah<|(m:V)) 0) J J J J J ?_ (O J ?_) (hp:=?_)) (hp:=?_))
   .show ah ((m:V)+(k:V))<Z (py f a b k m);rw[n,p];omega
   .refine bU<|rt J (hp:=aH)<|a6 (m+1) d (Y:Z b-(m+1)<Z b-m)<|wk (bP J) ⟨bE J ?_,bE J J,M⟩;show aC.vec 44 .q ((py f a b k m).set (ah<|(m:V)+(k:V))<|I (py f a b k m) (ah<|(m:V)+(k:V)) 0+a*I b (ah<|(m:V)) 0)=_;rw[z,n,x,ar' Y]
   .simp only[Pr.an,Pr.h,num,gy,true_and,and_true];omega
   .simp only[Pr.an,Pr.h,num,gy,true_and,and_true];omega
  .have g:fU (I b (ah<|(m:V)) 0).num=0:=zd g;rw[x]at g;have g:=BD<|xY.1 g;refine bU<|rt J (hp:=aH)<|a6 (m+1) d (Y:Z b-(m+1)<Z b-m)<|wk (bP J) ⟨bE J ?_,bE J J,M⟩;rw[asa g]
 .have d:m=Z b:=by have d:¬(m:V)<(Z b:V):=bh d;omega
  subst d;exact bD<|ac2 cp J (bq.refl _) J
def QS.zero{s}(b:1<=s):QS s 0:=⟨aK.zero _,(aK.one (a:=1) o).le b⟩
def QS.int{s}(b:1<=s){n}(f:aD n<4294967296):QS s (n:U):=⟨(aK.one f).le b,(aK.one (a:=1) o).le b⟩
def wL(b:U)(a:E U):E U:=a.map (b*·)
def agm b a i:I (wL b a) i 0=b*I a i 0:=by
 unfold wL;rw[aO,jn,aO];cases a[i]? with
 |none=>show(0:U)=b*0;rw[dU]
 |some x=>rfl
def Lq n i:I (bt n (0:U)) i 0=0:=by rw[aO,nc];split<;>rfl
def asb b a:kD (bt (Z a) 0) b a 0=wL b a:=Lo (by rw[kD,oG,gQ,wL,c7]) λi d=>by rw[kD,oG,gQ]at d;rw[kD,wK (by rw[gQ];exact d),q Y,Lq,tz,A4,agm]
def asc{s}(g:1<=s)(k:s<=200000000000) b a(f:Z a<=1000)(l:QS s b)(m:∀i,QS s (I a i 0)):aq r 75 [aQ b,S .q a] (S .q<|gH<|wL b a):=by refine aS Tryz.func75 ?_;have n:=QB (Z a) f;have d:=QD k (bt (Z a) 0) b a 0 VV (by rw[gQ];exact f) (λi=>by rw[Lq];exact QS.zero g) l m;rw[asb]at d;have p:=Ln (wL b a) (by unfold wL;rw[c7];omega);refine e J<|w<|De J J n<|O J<|w<|A0 1002000 J d J J<|O J ?_;exact dm 1002000 J J J<|bL J J p J<|di J
def QS.inv{s}{a}(g:QS s a)(i:a≠0):QS s a⁻¹ :=by
 have k:a.num≠0:=λe=>i<|BD e
 rw[agi];have f:=OV (a.den:V) a.num k;have l:iR (a.den:V) a.num=1:=by rw[Int.gcd_comm];exact a.reduced
 rw[l]at f;by_cases b:a.num<0
 .rw[q b,show-(((1:G):V))= -1 from J,Du,wg,Du,wg]at f;exact⟨by rw[f.1];exact g.d.neg,by rw[f.2];exact g.n.neg⟩
 .rw[j b,show(((1:G):V))=1 from J,wg,wg]at f;exact⟨by rw[f.1];exact g.d,by rw[f.2];exact g.n⟩
def uS(a:E U):E U:=(cy<|Z a-1).map λi=>(((i+1:G):V):U)*I a (i+1) 0
def Xs(a):Z (uS a)=Z a-1:=by simp[uS]
def agn{a}{i}(b:i<Z a-1):I (uS a) i 0=(((i+1:G):V):U)*I a (i+1) 0:=by unfold uS;rw[aO,jn,lp b];rfl
def BE(a:E U)(b:G):E U:=a++bt (b-Z a) 0
def QE{a}{b}(d:Z a<=b):Z (BE a b)=b:=by simp[BE];omega
def ago a b i:I (BE a b) i 0=I a i 0:=by
 unfold BE;rw[aO,aO];by_cases h:i<Z a
 .rw[E3 h]
 .rw[E4 Y,jB (l:=a) Y,nc];split<;>rfl
def zJ(a:E U)(d:U)(b:E U):E U:=kD (BE a<|max (Z a)<|Z b) d b 0
def asd{s}(A:1<=s)(m:s<=200000000000) a d b(B:Z a<=1000)(D:Z b<=1000)(n:0<max (Z a) (Z b))(p:∀i,QS s (I a i 0))(t:QS s d)(u:∀i,QS s (I b i 0)):aq r 128 [S .q a,aQ d,S .q b,y 0] (S .q<|gH<|zJ a d b):=by
 refine aS Tryz.func128 ?_;generalize hM:max (Z a) (Z b)=M at*;have f:M<=1000:=Y;have v:=QB M f;have g:=QD m (BE a M) d b 0 (by rw[QE Y];omega) (by rw[QE Y];exact f) (λi=>by rw[ago];exact p i) t u;have x:=Ln (zJ a d b) (by rw[zJ,kD,oG,hM,QE Y];omega);have k:zJ a d b=kD (BE a M) d b 0:=by rw[zJ,hM]
 rw[<-k]at g;have z:(if(Z b:V)+0>(Z a:V)then(Z b:V)+0 else(Z a:V))=(M:V):=by split<;>omega
 have l:pS r 118 [y (if(Z b:V)+0>(Z a:V)then(Z b:V)+0 else(Z a:V))] 44 .q (bt M 0):=by rw[z];exact v
 refine e J<|w<|De J J l<|O J ?_;refine w<|OF J J J J J VV (λk=>by have:=bl Z k;rw[gQ]at this;simp at this;omega)<|O J ?_;rw[Xt];change TR _ _ _ ⟨_,(_,.vec 44 .q<|BE a M)::_,_,_⟩ _;refine w<|A0 1007000 J g J J<|O J ?_;exact dm 1007000 J J J<|bL J J x J<|di J
def ase{s}(g:1<=s)(l:s<=200000000000) a b(m:Z a<=1000)(n:Z b<=1000)(f:0<max (Z a) (Z b))(p:∀i,QS s (I a i 0))(t:∀i,QS s (I b i 0)):aq r 74 [S .q a,S .q b] (S .q<|gH<|zJ a (-1) b):=by refine aS Tryz.func74 ?_;have k:=Ll (-1) o o;have d:=asd g l a (((-1:V)):U) b m n f p (QS.int g o) t;rw[show(((-1:V)):U)= -1 from J]at d k;exact e J<|w<|rc J J k<|rc J J d<|O J<|di J
section
variable{P:bO}{tt:E (G×TI)}
def asf(cC:cw P tt=af){n N}{Q}{i}{aF:a8}(ho:Q[i]? =ae aF)(hg:aF.guard=none){d:G}(hd:aF.dst=ae d)(dn:d<n){x p}{t1 t2}(bW:aF.op= .call ⟨.builtin .copy,#[x,p],#[t1,t2]⟩)
 {f}{t}{bp E1:eh} {T}{ei:TI} (hx:f.ev x=ae (.c<|.X t)) (hl:L t f.mem=ae (.vec bp T [])) (hy:f.ev p=ae (.c<|.S T [])) (D:AH tt t1 t2=ae (E1,ei)) (tY:ei.size=T.n):
  mu P n Q i f (f.put d<|.c<|.I .i64 0) N (bH [x,p]++cV [t],[.s d]):=by
 refine⟨(cH f x++cH f p)++fK f [t],[(.s d,ae<|.v<|.c<|.I .i64 0)],?_,?_,qo f d _,?_,λk hk=>kK⟩
 .refine tX ho hg hd dn _ _ N ?_;intro F r σ g W a l C;have D:=Nn cC D;rw[tY]at D;have w:a.eval x=g.γ t:=dJ l f x _ hx<|λH cq=>C H eK;have M:=dJ l f p _ hy<|λH cq=>C H eK;have O:σ (.m t)=ae (.b<|.vec bp T ([]:E T.den)):=C (.m t,.b<|.vec bp T []) rB;let ⟨e2,jz⟩:=D.u2;let ⟨inf,z,A,B,V,yA,vB⟩:=D.info;let ⟨us,u,R,sY,yF⟩:=CI (P:=P) (st:=f) (sz:=T.n) (y:= .c<|.S T []) (m:=0) (cs:=[]) (ids:=[]) l (by simp[vI]) M (λt bc=>yj) jz J;have U:us=[]:=R;subst U;refine⟨λj hj=>(by cases hj),(.int .i64 0:Value),?_,J⟩;have q:(agp #[t1,t2] aF.type #[a.eval x,a.eval p]).run P W= .ok (.int .i64 0) W:=by
   rw[w];have Y:=u.cells;rcases l.cE t _ O with⟨K,_⟩|⟨b,cap,vs,K,hh,vu,Z,hlen,hr,hN,hz⟩
   .rw[K];simp[agp,run_underlying D.u1,sizeOf,typeInfo,A,u.len,B,Y,goInt,Sem.run,pure]
   .rw[K];simp[agp,run_underlying D.u1,sizeOf,typeInfo,A,u.len,B,Y,goInt,Sem.run,pure,storeCells]
  refine Fw bW<|λcs=>?_;have e:(#[x,p]:Array Operand).map a.eval= #[a.eval x,a.eval p]:=ax;rw[e];simp only[Go.builtin,Sem.run_bind,q,Result.andThen];rfl
 .intro H cq;rcases bg.1 cq with h|h
  .rcases bg.1 h with h|h
   .exact eC _ x H h
   .exact eC _ p H h
  .exact k9 _ [t] H h
 .intro k hk;simp only[dz,fL,bg]at hk;rcases hk with(h|h)|h
  .exact eH _<|eP f [x,p] k uf
  .exact eH _<|eP f [x,p] k xc
  .exact gx _<|kg f [t] k h
end
section
variable{n:G}{sl sl':E (G×AV)}{mem bT:E (G×aC)}{nx:G}{gd gd':E (G×Bool)}{ops:Array a8}{draw:Bool}{p:Pr}{ks dA:E Ks}{i i' n0 cu:G}{os dN:E a8}{d:G}{ty:eh}{pos:String}{iB:Array Edge}{R:St->Prop}
def ash{x a}{k l}{b}{u v:eh}{T}{m}(z:runs dE n nx draw ops.toList os i ⟨sl,mem,n0,gd⟩ .t ks=(⟨ae d,.call ⟨.builtin .copy,#[x,a],#[k,l]⟩,ty,pos,iB,none⟩::dN,i',⟨sl',bT,cu,gd'⟩,p,dA))
  (A:St.ev ⟨sl',bT,cu,gd'⟩ x=ae (.c<|.X b)) (B:L b bT=ae (.vec u T [])) (D:St.ev ⟨sl',bT,cu,gd'⟩ a=ae (.c<|.S T [])) (H:AH dE k l=ae (v,m))
  (N:RG r n ops draw nx (i'+1) dN ⟨(d,.c<|.I .i64 0)::sl',bT,cu,gd'⟩ (g5 draw dA (bH [x,a]++cV [b],[.s d])) R) (f:m.size=T.n:=by rfl)
  (P:p:=by exact mB) (g:dK d n=af:=by rfl):RG r n ops draw nx i os ⟨sl,mem,n0,gd⟩ ks R:=
 jJ cp z P (mY (λC=>asf cp C J J (cQ g) J A B D H f)<|mZ N)
end
def dR(inv:U)(a b:E U)(n m:G):G->E U×E U
 |0=>(bt m 0,a)
 |d+1=>((dR inv a b n m d).1.set (m-1-d)<|(dR inv a b n m d).2.getD (m-1-d+n) 0*inv,kD (dR inv a b n m d).2 (-((dR inv a b n m d).2.getD (m-1-d+n) 0*inv)) b<|m-1-d)
def BF(inv a b n m):∀d,(dR inv a b n m d).1.length=m/\(dR inv a b n m d).2.length=Z a
 |0=>⟨gQ,J⟩
 |d+1=>by let ⟨f,h2⟩:=BF inv a b n m d;exact⟨by rw[dR,oQ,f],by rw[dR,kD,oG,h2]⟩
def asi{s}(h1:1<=s)(hs:s<=100000000000) a b n m(hn:Z b=n+1)(hm:Z a=n+m)(Jt:0<m)(la:Z a<=1000)(x:I b n 0≠0)(N:∀i,QS s (I b i 0))(hS:∀f,f<=m->∀i,QS s ((dR (I b n 0)⁻¹ a b n m f).2.getD i 0)):
  aq r 65 [S .q a,S .q b] (.t [(ak,[.S .q (gH (dR (I b n 0)⁻¹ a b n m m).1)]),(ak,[.S .q (gH<|(dR (I b n 0)⁻¹ a b n m m).2.take n)]),(ak,[.I .i64 0])]):=by
 refine aS Tryz.func65 ?_
 refine e J<|h<|e J<|F J (λk=>?_)<|λk=>aG ?_
 .have k:(Z b:V)=0:=eS k;exact aJ k Y
 refine w<|rm ZZ (Z a) J J J J J J U4 J ?_ ?_<|O J ?_
 .show Z a*64<=_;omega
 .show Z a*4<=_;omega
 refine fg (st':=⟨[(0,.c<|.S ZZ<|a.map qz),(1,S .q b),(7,.c<|.X 2002000)],[(2002000,.vec 44 ZZ<|bt (Z a) (0,0))],3,[]⟩) (wk ⟨⟨_,J,agl a⟩,sR J,sR J,M⟩ ⟨bR J,M⟩) ?_
 refine w<|OF J J J J J (by rw[gQ,c7];omega) (λz=>by have:=bl Z z;rw[gQ,ug]at this;omega)<|O J ?_
 have R:Xu qz a++az (Z<|Xu qz a) (bt (Z a) ((0,0):V×V))=a.map qz:=by rw[c7,Xt,jA,Fs,iO]
 refine fg (st':=⟨[(0,.c<|.S ZZ<|a.map qz),(1,S .q b),(7,.c<|.X 2002000)],[(2002000,.vec 44 .q a)],4,[]⟩) (wk (bP J) ⟨⟨_,J,by rw[R];exact QA 44 a⟩,M⟩) ?_
 refine e J<|h<|e J<|F J (λk=>?_)<|λk=>aG ?_
 .have k:(Z (a.map qz):V)<=(Z b:V)-1:=aX k;rw[c7]at k;exact aJ k Y
 have U:ah ((Z b:V)-1)=n:=Y
 have hi:aq r 115 [aQ (I b (ah<|(Z b:V)-1) 0)] (.t [(af,av .q (I b n 0)⁻¹),(ak,[.I .i64 0])]):=by rw[U];exact agh _ (λz=>x<|BD z) ((N _).n.sm Y)<|(N _).d.sm Y
 have A:QS s (I b n 0)⁻¹ :=(N n).inv x
 generalize (I b n 0)⁻¹ =inv at*
 have ez:(Z (a.map qz):V)-((Z b:V)-1)=(m:V):=by rw[c7];omega
 have hz:pS r 118 [y ((Z (a.map qz):V)-((Z b:V)-1))] 44 .q (bt m 0):=by rw[ez];exact QB m Y
 refine w<|rc J J hi (O J<|w<|De J J hz<|O J ?_) (hp:=aH)
 refine h<|e J ?_
 rw[gQ]
 have B:=BF inv a b n m
 refine aA<|bx (α:=G) (λf=>⟨[(1,S .q b),(7,.c<|.X 2002000),(8,y n),(9,.c<|.P 6008000 0),(11,.c<|.X 7004000),(12,y<|(m:V)-1-f)],[(7004000,.vec 44 .q (dR inv a b n m f).1),(6008000,.box 44 0<|av .q inv),(2002000,.vec 44 .q (dR inv a b n m f).2)],9,[]⟩) (λf=>f<=m) (λf=>m-f) 0 (bm _) (wk ⟨sR J,sR J,sE J ?_,sR J,sR J,sE J ?_,M⟩ ⟨bR J,bE J J,bR J,M⟩) ?_
 .exact jC (Y:(Z b:V)-1=(n:V))
 .exact jC (Y:(m:V)-1=(m:V)-1-((0:G):V))
 intro f hj
 let ⟨hq,hr⟩:=B f
 have l:=hS f hj
 have v:dR inv a b n m (f+1)=((dR inv a b n m f).1.set (m-1-f)<|(dR inv a b n m f).2.getD (m-1-f+n) 0*inv,kD (dR inv a b n m f).2 (-((dR inv a b n m f).2.getD (m-1-f+n) 0*inv)) b<|m-1-f):=rfl
 refine h<|e J<|F J (λp=>?_)<|λp=>?_
 .have p:f<m:=by have p:(m:V)-1-f>=0:=aX p;omega
  generalize dR inv a b n m f=asj at*;let ⟨K,u⟩:=asj;simp only at hq hr l v;have f1:ah ((m:V)-1-f)=m-1-f:=Y;have f2:ah ((m:V)-1-f+n)=m-1-f+n:=Y;have g:=Qz (I u (ah<|(m:V)-1-f+n) 0) inv (l _) A Y;have L:QS (2*s) (I u (m-1-f+n) 0*inv):=(l _).mul A;generalize C:I u (m-1-f+n) 0*inv=t at*;have g:aq r 72 [aQ (I u (ah<|(m:V)-1-f+n) 0),aQ inv] (aQ t):=by
   have z:I u (ah<|(m:V)-1-f+n) 0*inv=t:=by rw[f2];exact C
   rwa[z]at g
  have Q:(K.set (ah<|(m:V)-1-f) t).getD (ah<|(m:V)-1-f) 0=t:=by rw[D1 _ _ Y,q J]
  have D:aq r 71 [aQ ((K.set (ah<|(m:V)-1-f) t).getD (ah<|(m:V)-1-f) 0)] (aQ<| -t):=by rw[Q];exact agf t<|L.n.sm Y
  have W:=QD (s:=2*s) Y u (-t) b (m-1-f) Y Y (λi=>(l i).le Y) L.neg<|λi=>(N i).le Y;have H:vX r 119 [.c (.X 0),aQ<| -t,S .q b,y<|(m:V)-1-f] 44 .q u (.t []) (kD u (-t) b<|m-1-f):=by rw[(Y:(m:V)-1-f=((m-1-f:G):V))];exact W
  refine dk<|aR<|h<|aA<|w<|rc J J g<|vW (T:= .q) t J J J J J ?_ (O J (cL<|rc J J D<|A0 2002000 J H J J (O J<|bU<|rt J (hp:=aH)<|a6 (f+1) p (Y:m-(f+1)<m-f)<|wk ⟨sR J,sR J,sR J,sR J,sR J,sE J ?_,M⟩ ⟨bE J ?_,bR J,bE J ?_,M⟩) (hp:=?_)) (hp:=?_)) (hp:=?_)
  .show ah ((m:V)-1-f)<Z K;omega
  .exact jC (Y:(m:V)-1-f-1=(m:V)-1-((f+1:G):V))
  .rw[v,f1]
  .rw[v]
  .simp only[Pr.an,Pr.h,num,gy,true_and,and_true];first|done|omega
  .simp only[Pr.an,Pr.h,num,gy,true_and,and_true];first|done|omega
  .show 0<=(m:V)-1-f/\(m:V)-1-f<(Z K:V);omega
 .have p:f=m:=by have p:¬(m:V)-1-f>=0:=bh p;omega
  subst p;refine bD<|aR<|dm 7004000 J J J<|dm 2002000 J J J ?_;have o:=Ln (dR inv a b n f f).1 Y;have E:=Ln (c n (dR inv a b n f f).2) Kg;exact w<|rc J J o<|rc J J E (O J<|di J) (hp:=aH)
def asl T a:bq (.t<|(ak,[.V (.slice none 0 0)])::a) (.t<|(ak,[.S T []])::a):=by
 refine⟨λg v h=>?_,λi h=>?_⟩
 .let ⟨vs,e,h⟩:=h;obtain⟨b,r,rfl,d,f⟩:=h;exact⟨_,e,_,_,J,(bq.nil T).1 g b d,f⟩
 .simpa[AV.al,dX,b8,C.al]using h
def asm(a b:E U)(g:Z a<Z b)(n:Z b<=1000):
  aq r 65 [S .q a,S .q b] (.t [(ak,[.S .q []]),(ak,[.S .q a]),(ak,[.I .i64 0])]):=by
 refine aS Tryz.func65 ?_
 refine e J<|h<|e J<|F J (λd=>?_)<|λd=>aG ?_
 .have d:(Z b:V)=0:=eS d;exact aJ d Y
 refine w<|rm ZZ (Z a) J J J J J J U4 J ?_ ?_<|O J ?_
 .show Z a*64<=_;omega
 .show Z a*4<=_;omega
 refine fg (st':=⟨[(0,.c<|.S ZZ<|a.map qz),(1,S .q b),(7,.c<|.X 2002000)],[(2002000,.vec 44 ZZ<|bt (Z a) (0,0))],3,[]⟩) (wk ⟨⟨_,J,agl a⟩,sR J,sR J,M⟩ ⟨bR J,M⟩) ?_
 refine nP ⟨[(0,.c<|.S ZZ<|a.map qz),(1,S .q b),(7,.c<|.X 2002000)],[(2002000,.vec 44 .q a)],4,[]⟩ ?_<|λf=>?_
 .refine e J (h<|e J<|F J (λd=>?_)<|λd=>?_)
  .exact dm 2002000 J J J<|e J<|bX<|da<|iZ cp J<|asl _ _
  .have d:¬(Z (a.map qz):V)<=(Z b:V)-1:=bh d;rw[c7]at d;exact aJ g Y
 .by_cases i:a=[]
  .subst i;exact cL<|ash J J J J J<|O J<|fp f<|wk (bP J) ⟨⟨_,J,QA 44 []⟩,M⟩
  .have k:=cR.2 i;have l:Xu qz a++az (Z<|Xu qz a) (bt (Z a) ((0,0):V×V))=a.map qz:=by rw[c7,Xt,jA,Fs,iO]
   refine cL<|OF J J J J J (by rw[gQ,c7];omega) (λm=>by have:=bl Z m;rw[gQ,ug]at this;omega)<|O J<|fp f<|wk (bP J) ⟨⟨_,J,by rw[l];exact QA 44 a⟩,M⟩
def asn{l}{k}t(a:k<Z l)(b:I l k 0=0):Rx.zx (l.set k t)=Rx.zx l+Rx.K (t:U)*Rx.X k:=Rx.ext λi=>by
 rw[Rx.dP,Rx.eF,Rx.oF,Rx.lI,Rx.lI,we _ _ _ _ a];by_cases e:k=i
 .subst e;rw[q J,q J,b,D2];grind
 .rw[j e,j<|λa=>e a.symm];grind
section
variable{P:bO}{tt:TT}
def Xv{n}{a}{g}{z i}{A}{B}{D m:St}{ks}{k}{Q:St->Prop}{u}{v}
  (hs:a[i]? =ae A->tU P n a i u v (rv (λi=>1000000*z+1000*i) i)) (H:∀p∈u,D.kn p.1=ae p.2) (s:m.kn=bs D.kn v) (N:∀x∈dz u,x∈k.1) (T:∀x∈fR v,x∈k.2) (cP:RG P n a g z (i+1) B m (ks++[k]) Q):RG P n a g z i (A::B) D ks Q:=by
 intro b
 have r:a[i]? =ae A:=by have:=bl (λl=>l[0]?) b;simpa[vn]using this
 have d:az (i+1) a.toList=B:=by rw[<-rF,b];rfl
 have C:=hs r
 let ⟨ds,K,hl,w,h2,y,E,W,F,G⟩:=cP d
 refine⟨(u,v)::ds,K,by simp[hl],?_,?_,?_,E,W,?_,G⟩
 .intro j hj;cases j with
  |zero=>simpa using C
  |succ j=>
   have:=w j rG
   rw[(Y:i+(j+1)=i+1+j)]
   simpa using this
 .intro j hj p f;cases j with
  |zero=>simp only[w6]at f;simpa[qq]using H p f
  |succ j=>
   simp only[Ci]at f
   have:=h2 j rG p f
   rw[s]at this
   simpa[qq]using this
 .rw[y,s];simp[qq]
 .intro I;let ⟨X,⟨c,e⟩,t⟩:=F I;refine⟨k::X,⟨by simp[c],λj hj q=>?_⟩,by rwa[mX,List.singleton_append]at t⟩;cases j with
  |zero=>exact⟨N,T⟩
  |succ j=>simpa using e j rG (by simpa using q)
def aso{n c1 k k'}{u}{i}{x:a8}(ho:u[i]? =ae x)(hg:x.guard=none){d:G}(hd:x.dst=ae d)(dn:d<n){f}{args}{D}(H:x.op= .call ⟨.value<|.func f,args,D⟩)
 {N}{vs}{T:AV} {p:E (G×aC)} (hv:kh N args.toList=ae vs) (hm:cO vs=[]) (hf:CX P f vs [] k T p k') (z:k'<=c1) (I4:∀l∈T.al,k<=l) (CJ:∀l b,L l p=ae b->∀kL∈b.al,k<=kL):
  tU P n u i (args.toList.flatMap<|cH N) ((.s d,ae<|.v T)::kM k p) (λl=>k<=l/\l<c1):=by
 intro F ly Q C V g W a K A aW X y
 have c:=Ct aW N _ _ hv X
 have q:d<a.tmps.size:=nv
 have I:=Tn hf (λl bc=>Ak) (λl b h=>by simp[L]at h) (λl bc=> .inl<|I4 l bc) (λl b h=> .inr λkL J=> .inl<|CJ l b h kL J) aW (λl bc=>A l ⟨bc.1,fY bc.2 z⟩) c (λl bc=>Ak) (λl b h=>by simp[L]at h) q
 unfold wpOp
 simp only[ho,Region.wanted,hg,cr]
 refine .inl ?_
 unfold Oper.wp
 have w:(execOp a.eval x).run P W= .ok (.enter f<|args.map a.eval) W:=by
  have m:=hf.call;unfold ob at m;rw[execOp,H];cases t:P.funcs[f]? with
  |none=>rw[t]at m;simp at m
  |some fn=>
   rw[t]at m
   simp only[cG,bne_iff_ne,ne_eq]at m
   have M:fn.body≠none:=by intro O;rw[O]at m;simp at m
   simp[resolve,Act.eval,yJ,invoke,callFunc,t,m.1,M]
 rw[w]
 simp only[Oper.upon]
 have B:(args.map a.eval)=(args.toList.map a.eval).toArray:=Ar
 rw[B]
 refine I.mono ?_
 rintro e R ⟨v,S,rfl,U⟩
 simp only[hd]
 refine y S R _<|U.weaken<|λl bc=>?_
 rcases bc with bc|bc
 .exact .inl bc
 .exact .inr ⟨bc.1,fY bc.2 z⟩
def agq(P:bO)(d:Func)(f:AV):ia:=λF e a W=>(∀b,¬F.own b)->bodyPostM (dC none) 0 P d (ML F.w0 F.H0 f) e a W
def Xw{n}{z}(m:cw P tt=af){p}{A}{D l}(N:mA tt z A=ae D)(s:bq D l)(t:p.results=A.toArray:=by rfl)(Q:l.al=[]:=by rfl):iC n .ret z OM (agq P p l):=by intro F q C w g W a h K f;obtain⟨_,_,mk,rfl,v,x⟩:=K;have T:a.defers=mk.map kq:=h.defers;show LeavesInM (dC none) 0 P p a.tmps (ML F.w0 F.H0 l) a.defers .returning W;rw[T];refine U3 (B:=F.w0.heap.size) mk W v x ?_;intro X c;have d:=h.wx (W':=X) c;let ⟨u,hu,i⟩:=Av (P:=P) m d t N;refine⟨u,hu,u,g.H,J,?_,d.le,λb o e=>d.fresh b o e<|f b,d.sub,⟨d.below.os,d.below.tape,d.below.output,d.below.size,λk j=>d.below.block k j<|f k⟩⟩;exact(s.1 _ _ i).iN Q (cD.refl _) jK
def agr{n nx}{f}{g}{T}{args}{B}(hf:P.funcs[f]? =ae g)(hb:g.body=ae T)(hN:g.ntmps=n)(i:eL args.length n=af)(N:cO args=[])(Q:B.al=[])(qv:(g.name != "runtime.NumGoroutine")=af)
  (l:TJ P n T ⟨dG 0 args,[],nx,[]⟩ OM (agq P g B)):aq P f args B:=by
 refine⟨yv,Q,?_⟩
 intro H W vs p d
 refine callsIn_wide.1<|callsIn_of_wp_marks (n:=0) (F:=dC none) hf hb M ?_
 have K:=xh d
 have i:=cQ i
 refine wpIn_mono (F:=dC none) (l {w0:=W,H0:=H,n:=n} rfl (bm _) (.inl J) [] ⟨H,jK⟩ W _ ⟨?_,J,?_,?_,?_,?_,?_,p,⟨J,J,J,aN _,λ_ _ _=>rfl⟩,cD.refl _,λ_ _ _ _=>rfl,λ_ l=>aJ l<|oT _⟩ ⟨J,J,[],J,λD o=>(by cases o),List.nodup_nil⟩)<|λe a I q=>q<|λ_ l=>l
 .simp[hN,dB.dr];omega
 .intro t v X;simp only[St.kn,bS]at X;let ⟨x,hx,he⟩:=X;cases he;let ⟨_,u,hu,hr,_⟩:=lT args vs 0 d t v hx;have z:vs[t]? =ae u:=vr;have jw:t<Z vs:=(qn.1 z).1;have:(vs.toArray++rR (g.ntmps-vs.toArray.size) undef).getD t undef=u:=by rw[lR,ui yw];simp[z]
  rw[this];exact hr
 .intro A b e;simp[St.kn,L]at e
 .intro A w b O k e;simp[St.kn,L]at e
 .intro k x e A C;cases k with
  |m j=>simp[St.kn,L]at e
  |s t=>
   simp only[St.kn,bS]at e
   let ⟨y,E,he⟩:=e
   subst he
   let ⟨_,u,_,_,G⟩:=lT args vs 0 d t y E
   have:=G A C
   rw[N]at this
   cases this
 .intro A x e;simp[St.kn,L]at e
end
def Lr(g:Gh)(fm:E (G×aC))(b:G):Prop:=∃a d,L a fm=ae d/\cF (g.γ a)=ae b
def asp(g:Gh)(W:World)(fm:E (G×aC))(f:AV)(i:Ending)(d:World):Prop:=
 ∃v a,i= .returned v/\bf ⟨a,jK⟩ f v/\cD g.H a/\(∀b o,b<W.heap.size->¬Lr g fm b->a b o=g.H b o)/\Sub a d/\EF (Lr g fm) W d
structure QF(P:bO)(f:FuncId)(args:E AV)(fm:E (G×aC))(r:AV):Prop where
 call:ob P f=af
 iN:r.al=[]
 spec:∀g W vs,Sub g.H W->fD g args vs->(∀d b,L d fm=ae b->gL (λ_=>True) g W d b)->(∀d a b i k,L d fm=ae b->L a fm=ae i->cF (g.γ d)=ae k->cF (g.γ a)=ae k->d=a)->Calls P f vs.toArray W (asp g W fm r)
def ags(P:bO)(g:Func)(i:AV):ia:=λF e a W=>bodyPost P g (λe f=>∃v d,e= .returned v/\bf ⟨d,jK⟩ i v/\cD F.H0 d/\(∀b o,b<F.w0.heap.size->¬F.own b->d b o=F.H0 b o)/\Sub d f/\EF F.own F.w0 f) e a W
section
variable{P:bO}{tt:TT}{n:G}{st:St}
def agt(d:cw P tt=af){l}{m}{p f}(s:mA tt st m=ae p)(i:bq p f)(k:l.results=m.toArray:=by rfl)(t:f.al=[]:=by rfl):gf n .ret st (ags P l f):=by intro F v g W a h;let ⟨u,hu,b⟩:=Av d h k s;exact⟨h.defers.trans v.ds,u,hu,u,g.H,J,(i.1 _ _ b).iN t (cD.refl _) jK,h.le,h.fresh,h.sub,h.below⟩
def asq{f}{z}{dT}{args}{fm}{a7}p(hf:P.funcs[f]? =ae z)(hb:z.body=ae dT)(hN:z.ntmps=n)(A:eL args.length n=af)(vY:∀d∈cO args,d<1000000*p)(B:xX (1000000*p) fm)(AY:a7.al=[])(qv:(z.name != "runtime.NumGoroutine")=af)
  (cP:TR P n dT ⟨dG 0 args,fm,p,[]⟩ (ags P z a7)):QF P f args fm a7:=by
 refine⟨yv,AY,?_⟩
 intro g W vs C l D K
 refine calls_of_wp hf hb ?_
 have o:=xh l
 have A:=cQ A
 have i:∀d b,St.kn ⟨dG 0 args,fm,p,[]⟩ (.m d)=ae (.b b)->L d fm=ae b:=by intro d b e;simp only[St.kn,bS]at e;let ⟨x,hx,he⟩:=e;cases he;exact hx
 let F:dB:={w0:=W,H0:=g.H,n:=n,own:=Lr g fm,k0:=0}
 refine wp_mono (cP F ⟨J,bm _,J,J⟩ g W _ ⟨?_,J,?_,?_,?_,?_,?_,C,⟨J,J,J,aN _,λ_ _ _=>rfl⟩,cD.refl _,λ_ _ _ _=>rfl,λ_ cP=>aJ cP<|oT _⟩)<|λe a S E=>E
 .simp[hN,F];omega
 .intro t v q;simp only[St.kn,bS]at q;let ⟨x,hx,he⟩:=q;cases he;let ⟨_,u,hu,hr,_⟩:=lT args vs 0 l t v hx;have N:vs[t]? =ae u:=vr;have jw:t<Z vs:=(qn.1 N).1;have:(vs.toArray++rR (z.ntmps-vs.toArray.size) undef).getD t undef=u:=by rw[lR,ui yw];simp[N]
  rw[this];exact hr
 .intro d b e;have X:=i d b e;exact(D d b X).AF (λk G=> .inr ⟨d,b,X,G⟩) J J ⟨cD.refl _,λ_ _=>rfl⟩
 .intro d Q b w k e X I M;exact K d Q b w k (i d b e) (i Q w X) I M
 .intro k x e d T;cases k with
  |m j=>
   cases x with
   |v y=>simp only[St.kn,bS]at e;let ⟨_,_,he⟩:=e;cases he
   |b b=>exact(B j b<|i j b e).2 d T
  |s t=>
   simp only[St.kn,bS]at e
   let ⟨y,O,he⟩:=e
   subst he
   let ⟨_,u,_,_,R⟩:=lT args vs 0 l t y O
   exact vY d<|R d T
 .intro d x e;cases x with
  |v y=>simp only[St.kn,bS]at e;let ⟨_,_,he⟩:=e;cases he
  |b b=>exact(B d b<|i d b e).1
def QG{d:Type}{f:G}{b:d}:∀{l:E (G×d)},L f l=ae b->f∈l.map (·.1)
 |[],a=>by simp[L]at a
 | (i,x)::l,a=>by
  simp only[L]at a;split at a
  .rename_i g;simp[g]
  .exact kJ _<|QG a
def agu{f:Type}{d:G}:∀{l:E (G×f)},d∈l.map (·.1)->∃b,L d l=ae b
 |[],a=>by cases a
 | (i,x)::l,a=>by
  simp only[L];split
  .exact⟨x,J⟩
  .rename_i g;rcases b9.1 a with a|a
   .exact aJ a.symm g
   .exact agu a
def D3(l:E G):∀k,aE (l.map λa=>((.m a:Key),(none:Option Info))) k=(match k with| .m a=>if a∈l then ae none else none| .s _=>none):=by
 induction l with
 |nil=>intro k;cases k<;>simp[aE]
 |cons x l b=>
  intro k
  simp only[gM,aE]
  cases k with
  |s t=>simp[b]
  |m a=>
   by_cases e:x=a
   .subst e;simp
   .simp only[Key.m.injEq,e,bV,b,b9];have:¬a=x:=λh=>e h.symm
    simp[this]
def asr{n new}{ops}{i}{aF:a8}(ho:ops[i]? =ae aF)(hg:aF.guard=none){d:G}(hd:aF.dst=ae d)(dn:d<n){f}{args}{kj}(bW:aF.op= .call ⟨.value<|.func f,args,kj⟩)
 {sl}{p fm}{nx:G} {gd:E (G×Bool)} {vs:E AV} {a7:AV} (hv:kh ⟨sl,p++fm,nx,gd⟩ args.toList=ae vs) (hf:QF P f vs fm a7) (agv:∀l b,L l fm=ae b->L l p=none):
  mu P n ops i ⟨sl,p++fm,nx,gd⟩ ⟨(d,a7)::sl,p,nx,gd⟩ new (bH args.toList++cV (fm.map (·.1)),.s d::(fm.map (·.1)).map .m):=by
 have U:∀l b,L l fm=ae b->L l (p++fm)=ae b:=λl b z=>by rw[Qg,agv l b z,z];rfl
 refine⟨args.toList.flatMap (cH ⟨sl,p++fm,nx,gd⟩)++fK ⟨sl,p++fm,nx,gd⟩ (fm.map (·.1)),(.s d,ae<|.v a7)::(fm.map (·.1)).map (λl=>(.m l,none)),?_,?_,?_,?_,?_⟩
 .intro F ly Q known σ g W a K yh aW fS hK;have V:=Ct aW _ _ _ hv<|λZ B=>fS Z<|eH _ B;have oh:=yD (st:=⟨sl,p++fm,nx,gd⟩) (ids:=fm.map (·.1)) (σ:=σ)<|λZ B=>fS Z<|gx _ B;have I:∀l b,L l fm=ae b->σ (.m l)=ae (.b b):=λl b z=>oh l (QG z) b (U l b z)
  have hc:=hf.spec g W _ aW.sub V (λl b z=>(aW.cE l b<|I l b z).AF (λ_ _=>trivial) J J ⟨cD.refl _,λ_ _=>rfl⟩)<|λl pN b b' k C y h3 h4=>aW.inj l pN b b' k (I l b C) (I pN b' y) h3 h4;unfold wpOp;simp only[ho,Region.wanted,hg,cr];refine .inl ?_;unfold Oper.wp;have vY:args.map a.eval=(args.toList.map a.eval).toArray:=Ar;have hex:(execOp a.eval aF).run P W= .ok (.enter f (args.toList.map a.eval).toArray) W:=by
   have D:=hf.call;unfold ob at D;rw[execOp,bW];cases Y:P.funcs[f]? with
   |none=>rw[Y]at D;simp at D
   |some fn=>
    rw[Y]at D
    simp only[cG,bne_iff_ne,ne_eq]at D
    have y:fn.body≠none:=by intro z;rw[z]at D;simp at D
    simp[resolve,Act.eval,yJ,invoke,callFunc,Y,D.1,y]
    exact vY
  rw[hex];simp only[Oper.upon];refine hc.mono ?_;rintro e W' ⟨v,H',rfl,yP,hle,xi,vG,X⟩;simp only[hd];have gY:d<a.tmps.size:=nv;have R:gw (λ_=>True) g ⟨H',g.γ⟩:=⟨hle,λ_ _=>rfl⟩;have hN:∀b,Lr g fm b->F.N b:=by rintro b ⟨l,bb,C,y⟩;exact((aW.cE l bb<|I l bb C).block y).1
  have hM:∀A b,bs σ ((.s d,ae<|.v a7)::(fm.map (·.1)).map (λl=>(.m l,none))) (.m A)=ae (.b b)->σ (.m A)=ae (.b b)/\∀k,cF (g.γ A)=ae k->¬Lr g fm k:=by
   intro A b z;simp only[bs,aE,reduceCtorEq,bV,D3]at z;by_cases e:A∈fm.map (·.1)
   .rw[q e]at z;cases z
   .rw[j e]at z;refine⟨z,λk H=>?_⟩;rintro⟨l,bb,C,y⟩;have:=aW.inj A l b bb k z (I l bb C) H y;subst this;exact e<|QG C
  refine hK ⟨H',g.γ⟩ W' _ ⟨by simp[Act.put,aW.size],aW.defers,?_,?_,?_,?_,?_,vG,?_,aW.le.trans hle,?_,λl c=>⟨.inl (aW.fB l c).1,(aW.fB l c).2⟩⟩
  .intro t u ht;simp only[bs,aE,D3]at ht;by_cases e:d=t
   .subst e;simp only[cr,ar,Info.v.injEq]at ht;subst ht;have:=yP.iN hf.iN (cD.refl _) g.γ;simpa[Act.put,gY]using this
   .have e':¬(Key.s d=Key.s t):=λh=>e eQ
    simp only[e',bV]at ht;have hv:(a.put (ae d) v).tmps.getD t undef=a.tmps.getD t undef:=by simp[Act.put,lM e]
    rw[hv];exact bf.mono R (λ_ _=>trivial)<|aW.dH t u ht
  .intro A b z;let ⟨C,y⟩:=hM A b z;have S:=aW.cE A b C;refine S.vM R M (λ_ _=>trivial)<|λk H=>?_;have w:=(S.block H).2;exact⟨X.block k w<|y k H,λaF=>xi k aF w<|y k H⟩
  .intro A j' b b' k z mU C y;exact aW.inj A j' b b' k (hM A b z).1 (hM j' b' mU).1 C y
  .intro k x T l c;cases k with
   |s t=>
    simp only[bs,aE,D3]at T
    by_cases e:d=t
    .subst e;simp only[cr,ar]at T;subst T;have:l∈a7.al:=c;rw[hf.iN]at this;cases this
    .have e':¬(Key.s d=Key.s t):=λh=>e eQ
     simp only[e',bV]at T;exact .inl<|aW.al _ _ T l c
   |m A=>
    simp only[bs,aE,reduceCtorEq,bV,D3]at T
    by_cases e:A∈fm.map (·.1)
    .rw[q e]at T;cases T
    .rw[j e]at T;exact .inl<|aW.al _ _ T l c
  .intro A x T;simp only[bs,aE,reduceCtorEq,bV,D3]at T;by_cases e:A∈fm.map (·.1)
   .rw[q e]at T;cases T
   .rw[j e]at T;exact .inl<|aW.dI _ _ T
  .refine⟨X.os.trans aW.below.os,X.tape.trans aW.below.tape,X.output.trans aW.below.output,bZ aW.below.size X.size,λk H O=>?_⟩;have w:k<W.heap.size:=fY H aW.below.size;rw[<-aW.below.block k H O];refine X.block k w<|λho=>?_;rcases hN k ho with C|C
   .omega
   .exact O C
  .intro k aF H O;have w:k<W.heap.size:=fY H aW.below.size;show H' k aF=_;rw[xi k aF w (λho=>?_)]
   .exact aW.fresh k aF H O
   .rcases hN k ho with C|C
    .omega
    .exact O C
 .intro Z B;rcases bg.1 B with B|B
  .let ⟨x,_,h⟩:=iY.1 B;exact eC _ x Z h
  .exact k9 _ _ Z B
 .funext k;cases k with
  |s t=>
   simp only[bs,aE,D3,St.kn,L]
   by_cases e:d=t
   .simp[e]
   .have e':¬(Key.s d=Key.s t):=λh=>e eQ
    simp[e,e']
  |m A=>
   simp only[bs,aE,reduceCtorEq,bV,D3,St.kn]
   by_cases e:A∈fm.map (·.1)
   .rw[q e];let ⟨b,z⟩:=agu e;simp[agv A b z]
   .rw[j e];show _=Option.map Info.b (L A<|p++fm);rw[Qg];cases C:L A fm with
    |some b=>exact aJ (QG C) e
    |none=>rw[Option.or_none]
 .intro k H;simp only[dz,fL,bg]at H;rcases H with h|h
  .exact eH _<|eP _ _ k h
  .exact gx _<|kg _ _ k h
 .intro k H;simp only[fR,gM,b9,N3]at H;rcases H with h|h
  .exact b9.2<|.inl h
  .refine b9.2<|.inr ?_;simpa[Function.comp]using h
end
section
variable{n:G}{Q:ia}{sl sl':E (G×AV)}{mem bT:E (G×aC)}{nx:G}{gd gd':E (G×Bool)}{ops:Array a8}{draw:Bool}{p:Pr}{ks dA:E Ks}{i i' n0 cu:G}{os dN:E a8}{d:G}{ty:eh}{pos:String}{iB:Array Edge}{R:St->Prop}
def rcc{f}{args}{g}{conc fm}{vs}{l}(v:runs dE n nx draw ops.toList os i ⟨sl,mem,n0,gd⟩ .t ks=(⟨ae d,.call ⟨.value<|.func f,args,g⟩,ty,pos,iB,none⟩::dN,i',⟨sl',conc++fm,cu,gd'⟩,p,dA))(x:kh ⟨sl',conc++fm,cu,gd'⟩ args.toList=ae vs)(z:QF r f vs fm l)(a:∀u b,L u fm=ae b->L u conc=none)
  (A:RG r n ops draw nx (i'+1) dN ⟨(d,l)::sl',conc,cu,gd'⟩ (g5 draw dA (bH args.toList++cV (fm.map (·.1)),.s d::(fm.map (·.1)).map .m)) R)
  (B:p:=by exact Cy) (k:dK d n=af:=by rfl):RG r n ops draw nx i os ⟨sl,mem,n0,gd⟩ ks R:=
 jJ cp v B (mY (λC=>asr C J J (cQ k) J x z a)<|mZ A)
end
def Ls(l:E (G×aC))(a:G):E (G×aC)->Prop
 |[]=>True
 | (t,b)::f=>((∃v,L t l=ae v/\lS v b)\/∃d z,L t l=ae (.box d z [.V (.slice none 0 0)])/\b= .box d z [.X a])/\Ls l a f
def Ls.get{l:E (G×aC)}{d:G}:∀{m:E (G×aC)},Ls l d m->∀{t b},L t m=ae b->(∃v,L t l=ae v/\lS v b)\/∃f z,L t l=ae (.box f z [.V (.slice none 0 0)])/\b= .box f z [.X d]
 |[],_,_,_,a=>by simp[L]at a
 | (k,x)::m,hw,t,b,a=>by
  simp only[L]at a;split at a
  .rename_i g;subst g;cases a;exact hw.1
  .exact Ls.get hw.2 a
def ass f bp T{sl}{mem}{nx}{gd}{n}{m2}{d}{B}(hs:As sl n)(hm:Ls mem f m2)(bc:eL (1000000*nx) f=af)
  (C7:xX (1000000*d) ((f,.vec bp T [])::m2)) (hbs:At (1000000*d) n=af:=by rfl) (x:(eL 1 d&&eL 1 f)=af:=by rfl):Wk ⟨sl,mem,nx,gd⟩ ⟨n,(f,.vec bp T [])::m2,d,B⟩:=by
 generalize C:(⟨sl,mem,nx,gd⟩:St)=st
 obtain rfl:sl=st.sl:=by rw[<-C]
 obtain rfl:mem=st.mem:=by rw[<-C]
 obtain rfl:nx=st.nx:=by rw[<-C]
 clear C
 intro F og g W a h
 simp only[cG]at x
 obtain⟨x,K⟩:=x
 have x:=cQ x
 have K:=cQ K
 have bc:=cQ bc
 let N:Gh:=⟨g.H,λj=>if j=f then .slice none 0 0 else g.γ j⟩
 have l:gw (kb st) g N:=⟨cD.refl _,λj O=>by have O:j<1000000*st.nx:=O;have:j≠f:=Y;simp[N,this]⟩
 have Q:N.γ f= .slice none 0 0:=by simp[N]
 have S:∀f,f<F.k0->f<1000000*d/\N.γ f=F.γ0 f:=by intro j O;obtain⟨U,Z⟩:=h.fB j O;refine⟨Y,?_⟩;rw[l.γ j U];exact Z
 have hS:∀t p,St.kn ⟨n,(f,.vec bp T [])::m2,d,B⟩ (.s t)=ae (.v p)->(∃v,st.kn (.s t)=ae (.v v)/\bq v p)/\∀f∈p.al,f<1000000*d:=by intro t p e;simp only[St.kn,bS]at e;obtain⟨y,P,D⟩:=e;cases D;refine⟨?_,Fj hbs t p P⟩;obtain⟨v,hv,l⟩:=hs.get P;exact⟨v,rI,l⟩
 have R:∀j u,St.kn ⟨n,(f,.vec bp T [])::m2,d,B⟩ (.m j)=ae (.b u)->((j=f/\u= .vec bp T [])\/(∃b,st.kn (.m j)=ae (.b b)/\lS b u)\/∃G z,st.kn (.m j)=ae (.b<|.box G z [.V (.slice none 0 0)])/\u= .box G z [.X f])/\(j<1000000*d/\∀i∈u.al,i<1000000*d):=by
  intro t p e;simp only[St.kn,bS]at e;obtain⟨y,P,D⟩:=e;cases D;refine⟨?_,C7 t p P⟩;simp only[L]at P;split at P
  .rename_i e;cases P;exact .inl ⟨e.symm,J⟩
  .rcases hm.get P with⟨v,hv,l⟩|⟨G,z,hv,e⟩
   .exact .inr<|.inl ⟨v,rI,l⟩
   .exact .inr<|.inr ⟨G,z,rI,e⟩
 refine⟨N,h.size,h.defers,?_,?_,?_,?_,?_,h.sub,h.below,h.le,h.fresh,S⟩
 .intro t p e;obtain⟨v,hv,hav⟩:=(hS t p e).1;exact hav.1 _ _<|bf.mono l (h.al _ _ hv)<|h.dH t v hv
 .intro j u e;rcases(R j u e).1 with⟨rfl,rfl⟩|⟨b,q,IS⟩|⟨G,z,q,rfl⟩
  .exact .inl ⟨Q,J⟩
  .exact IS.1 _ _ _ _<|(h.cE j b q).vM l (h.dI _ _ q) (h.al _ _ q)<|λk A=>⟨J,λo=>rfl⟩
  .obtain⟨k,vs,rest,e1,e2,e3,e4,e5,e6⟩:=(h.cE j _ q).vM l (h.dI _ _ q) (h.al _ _ q)<|λk A=>⟨J,λo=>rfl⟩;refine⟨k,vs,rest,e1,e2,?_,e4,e5,e6⟩;obtain⟨v,r,rfl,U,Z⟩:=e3;refine⟨v,r,J,?_,Z⟩;show v=N.γ f;rw[Q];exact U
 .intro i j I b2 k e e' A uc;have M:∀i I,St.kn ⟨n,(f,.vec bp T [])::m2,d,B⟩ (.m i)=ae (.b I)->cF (N.γ i)=ae k->∃c,st.kn (.m i)=ae (.b c)/\cF (g.γ i)=ae k:=by
   intro i I e A;rcases(R i I e).1 with⟨rfl,_⟩|⟨c,w,_⟩|⟨G,z,w,_⟩
   .rw[Q]at A;cases A
   .rw[l.γ i (h.dI _ _ w)]at A;exact⟨c,w,A⟩
   .rw[l.γ i (h.dI _ _ w)]at A;exact⟨_,w,A⟩
  obtain⟨c,w,ZP⟩:=M i I e A;obtain⟨c',Fp,IJ⟩:=M j b2 e' uc;exact h.inj i j c c' k w Fp ZP IJ
 .intro k y e i hi;cases k with
  |s t=>
   cases y with
   |v p=>exact(hS t p e).2 i hi
   |b u=>simp only[St.kn,bS]at e;obtain⟨_,_,D⟩:=e;cases D
  |m j=>
   cases y with
   |v p=>simp only[St.kn,bS]at e;obtain⟨_,_,D⟩:=e;cases D
   |b u=>exact(R j u e).2.2 i hi
 .intro j y e;cases y with
  |v p=>simp only[St.kn,bS]at e;obtain⟨_,_,D⟩:=e;cases D
  |b u=>exact(R j u e).2.1
section
variable{P:bO}
def asv{n}{d}{b}{f i}{g}{k}{l}{Q m:St->Prop}(p:RG P n d b f i g k l Q)(s:∀a,Q a->m a):RG P n d b f i g k l m:=λt=>by let ⟨ds,a,u,v,h2,x,z,A,B,C⟩:=p t;exact⟨ds,a,u,v,h2,x,z,A,B,s a C⟩
end
section
variable{n:G}{Q:ia}{O:vZ}{sl sl':E (G×AV)}{mem bT:E (G×aC)}{nx:G}{gd gd':E (G×Bool)}{id:G}{ops:Array a8}{draw:Bool}{y:Code}{p:Pr}{ks dA:E Ks}{i i' n0 cu:G}
def kr(d:A1 O)(f:runs dE n nx draw ops.toList ops.toList 0 ⟨sl,mem,nx,gd⟩ .t []=([],i',⟨sl',bT,n0,gd'⟩,p,ks))(g:TJ r n y ⟨sl',bT,nx+1,[]⟩ O Q)
  (hp:p:=by exact mB) (k:(!draw||rE ops.toList ks)=af:=by kernel_rfl) (a:eL ops.size 1000=af:=by rfl) (b:rX mem=af:=by rfl):TJ r n (.seq (.region id ops draw) y) ⟨sl,mem,nx,gd⟩ O Q:=
 nK (OG MX d b<|jJ cp f hp<|ID (m9 g) k a)
def kt(d:A1 O)(f:runs dE n nx draw ops.toList ops.toList 0 ⟨sl,mem,nx,gd⟩ .t []=([],i',⟨sl',bT,n0,gd'⟩,p,ks))(g:iC n .normal ⟨sl',bT,nx+1,[]⟩ O Q)
  (k:p:=by exact mB) (l:(!draw||rE ops.toList ks)=af:=by kernel_rfl) (a:eL ops.size 1000=af:=by rfl) (b:rX mem=af:=by rfl):TJ r n (.region id ops draw) ⟨sl,mem,nx,gd⟩ O Q:=
 OG MX d b (jJ cp f k<|ID g l a)
def zK(f:A1 O)(a:RG r n ops draw nx 0 ops.toList ⟨sl,mem,nx,gd⟩ [] (λb=>TJ r n y b O Q))(d:rX mem=af:=by rfl):TJ r n (.seq (.region id ops draw) y) ⟨sl,mem,nx,gd⟩ O Q:=nK<|OG MX f d<|asv a λ_ a=>m9 a
def Hr(d:A1 O)(f:RG r n ops draw nx 0 ops.toList ⟨sl,mem,nx,gd⟩ [] (λa=>iC n .normal a O Q))(b:rX mem=af:=by rfl):TJ r n (.region id ops draw) ⟨sl,mem,nx,gd⟩ O Q:=OG MX d b f
end
def QH{n f i}{a}{g}{m p}{k b d}{s}{l}(v:runs dE n f ak a.toList (az i a.toList) i k .t []=(g,m,b,s,l))(t:SG r n a f m b p d)
  (x:s:=by first|trivial| (simp only[Pr.an,Pr.h,num,gy,true_and,and_true];first|done|omega)| (simp[Pr.an,Pr.h,num,gy];done)| (simp[Pr.an,Pr.h,num,gy];omega)):SG r n a f i k p d:=
 (adh cp _ i k .t [] v x (λq o u=>by rw[vn]at u;rw[<-Fa];exact u)).1 M t
def asw n:(nl n).Pairwise (λx a=>cj x.testBit n<cj a.testBit n\/(cj x.testBit n=cj a.testBit n/\x<a)):=by
 have one:∀s,(wJ n s).Pairwise (λx a=>cj x.testBit n<cj a.testBit n\/(cj x.testBit n=cj a.testBit n/\x<a)):=λs=>by refine Qa ?_ (List.Pairwise.filter _ (Mc (n:=2^n)):(wJ n s).Pairwise (·<·));intro x a b d g;simp only[wJ,qj,beq_iff_eq]at b d;omega
 have f:∀k,((cy k).flatMap λs=>wJ n<|s+1).Pairwise (λx a=>cj x.testBit n<cj a.testBit n\/(cj x.testBit n=cj a.testBit n/\x<a)):=by
  intro k;induction k with
  |zero=>exact .nil
  |succ k i=>
   rw[Ag,FC]
   refine zI.2 ⟨i,?_,λx b a d=>?_⟩
   .simp only[lQ,Qv,iO];exact one<|k+1
   .simp only[iY,ru,lQ,Qv,iO,wJ,qj,beq_iff_eq]at b d;let ⟨s,l,h2,m⟩:=b;left;omega
 exact f _
def mw(A B a:G):G:=cond (Nat.beq a A) B a
def QI{A B a}(b:a≠A):mw A B a=a:=by
 unfold mw;cases e:Nat.beq a A with
 |true=>exact aJ (lX e) b
 |false=>rfl
def agw A B:mw A B A=B:=by unfold mw;rw[CR];rfl
def asx{i:Type}{A B}{m:E (G×i)}(f:L B m=none):∀b a,(L b m).isSome=af->(L a m).isSome=af->mw A B b=mw A B a->b=a:=by
 intro b a h g e;by_cases d:b=A<;>by_cases h2:a=A
 .rw[d,h2]
 .subst d;rw[agw,QI h2]at e;subst e;rw[f]at g;cases g
 .subst h2;rw[agw,QI d]at e;subst e;rw[f]at h;cases h
 .rwa[QI d,QI h2]at e
def Xx{n}{m}{d}{p}{f}{Mo}(u:m=if p then .normal else .exit f)(i:1<=d.nx)(s:d.mem=Mo):iC n m d v7 (JW p f Mo):=by intro F D x z g W a k A;have l:z=[]:=A;subst l;refine⟨u,g,d.nx,i,?_⟩;let ⟨sl,mem,nx,gd⟩:=d;simp only at s i;subst s;exact aM.frame (F:=F.dr []) (n':=(F.dr []).n) (ds':=[]) (rd':=(F.dr []).rd) k k.size k.defers (λt v B=>by simp[L]at B)<|λH b C=>C
open Classical in
open Classical in
section
variable{P:bO}{tt:TT}
def asy{n}{p}{a}{g i d}{f}{first b}{W}{pos}{A}{D}{u}{mem}{v}{z}{H}{Q:St->Prop}{N T}
  (hf:uo ⟨u,mem,v,z⟩ first.toList=ae N) (hc:uo ⟨u,mem,v,z⟩ b.toList=ae T)
  (l:∀k,RG P n p a g (i+1) D ⟨(d,.c<|.X<|1000000*g+1000*i)::u,(1000000*g+1000*i,.dS f N T)::mem,v,z⟩ (H++[k]) Q) (B:dK d n=af:=by rfl):
  RG P n p a g i (⟨ae d,.makeFunc (.func f) first b,W,pos,A,none⟩::D) ⟨u,mem,v,z⟩ H Q:=
 Xv (k:=(_,_)) (λK=>(aax K J J (cQ B) J hf hc<|1000000*g+1000*i).Mf ⟨aN _,by show _<1000000*g+1000*(i+1);omega⟩) (λo C=>by
  let ⟨x,_,l⟩:=iY.1 C;exact eC _ x o l) (by
   funext key;cases key with
   |s t=>
    by_cases e:d=t
    .subst e;simp[St.kn,L,bs,aE]
    .simp[St.kn,L,bs,aE,e]
   |m j=>
    by_cases e:1000000*g+1000*i=j
    .subst e;simp[St.kn,L,bs,aE]
    .simp[St.kn,L,bs,aE,e]) (λ_ l=>l) (λ_ l=>l) (l _)
def agx{l}{m n:Ending->World->Prop}(g:∀b f,m b f->n b f){b}{a}{f}(d:bodyPost P l m b a f):bodyPost P l n b a f:=by
 cases b with
 |normal=>let ⟨i,v,h2,k⟩:=d;exact⟨i,v,h2,g _ _ k⟩
 |ret=>let ⟨i,v,h2,k⟩:=d;exact⟨i,v,h2,g _ _ k⟩
 |panic c=>exact⟨d.1,g _ _ d.2⟩
 |outgrown=>exact g _ _ d
 |_=>exact d
def Xy(P:bO)(b:Func)(d:AV)(fm:E (G×aC)):ia:=λF e a W=>bodyPost P b (λe f=>∃v g,e= .returned v/\bf g d v/\aM F (λ_=>True) (St.kn ⟨[],fm,0,[]⟩) g f {tmps:=rR F.n undef,defers:=[]}) e a W
def agy(i:cw P tt=af){n}{l}{x}{z}{A}(D:mA tt l z=ae A)(m:x.results=z.toArray:=by rfl):gf n .ret l (Xy P x A l.mem):=by intro F B g W a h;let ⟨u,hu,d⟩:=Av i h m D;refine⟨h.defers.trans B.ds,u,hu,u,g,J,d,ax,B.ds.symm,?_,λf b C=>h.cE f b C,λf p b H k K N=>h.inj f p b H k K N,λ_ _ _ _ _=>trivial,λ_ _ _=>trivial,h.sub,h.below,h.le,h.fresh,λf s=>⟨M,(h.fB f s).2⟩⟩;intro t v Q;simp[St.kn,L]at Q
def asz(B:G->G){n}{f}{fn}{dT}{vs}{k k'}{a7}{fm0 fm}(hf:P.funcs[f]? =ae fn)(hb:fn.body=ae dT)(hN:fn.ntmps=n)(hle:eL (Z vs) n=af)(vY:cO vs=[])(qv:(fn.name != "runtime.NumGoroutine")=af)
  (z:TR P n dT ⟨dG 0 vs,[],0,[]⟩ (Xy P fn (By B a7) fm0)) (lU:k<=k') (Hs:∀d∈a7.al,k<=d/\d<k') (D:∀d b,L d fm=ae b->L (B d) fm0=ae (pZ B b)/\(k<=d/\d<k')/\∀T∈b.al,k<=T/\T<k')
  (asA:∀d i,(L d fm).isSome=af->(L i fm).isSome=af->B d=B i->d=i):CX P f vs [] k a7 fm k':=by
 refine⟨yv,lU,?_⟩
 intro F g W Q hn lV p
 have I:fD g vs Q:=T9 vs Q 0 Q lV (λT hj=>ax) (λt v V=>p.dH t v<|by simp[St.kn,V])
 have w:fD ⟨g.H,jK⟩ vs Q:=I.iN vY
 refine calls_of_wp hf hb ?_
 have hle:=cQ hle
 refine wp_mono (z {w0:=W,H0:=g.H,n:=n} ⟨J,bm _,J,J⟩ ⟨g.H,jK⟩ W _ ⟨?_,J,?_,?_,?_,?_,?_,p.sub,⟨J,J,J,aN _,λ_ _ _=>rfl⟩,cD.refl _,λ_ _ _ _=>rfl,λ_ z=>aJ z<|oT _⟩)<|λe a W' hq=>?_
 .simp[hN];omega
 .intro t v V;simp only[St.kn,bS]at V;obtain⟨x,C,A⟩:=V;cases A;obtain⟨_,u,hu,hr,_⟩:=lT vs Q 0 w t v C;have R:Q[t]? =ae u:=vr;have jw:t<Z Q:=(qn.1 R).1;have:(Q.toArray++rR (fn.ntmps-Q.toArray.size) undef).getD t undef=u:=by rw[lR,ui yw];simp[R]
  rw[this];exact hr
 .intro d b e;simp[St.kn,L]at e
 .intro d i b X k e;simp[St.kn,L]at e
 .intro k x e d l;cases k with
  |m T=>simp[St.kn,L]at e
  |s t=>
   simp only[St.kn,bS]at e
   obtain⟨y,hy,A⟩:=e
   subst A
   obtain⟨_,u,_,_,h6⟩:=lT vs Q 0 w t y hy
   have:=h6 d l
   rw[vY]at this
   cases this
 .intro d x e;simp[St.kn,L]at e
 refine agx ?_ hq
 rintro e W' ⟨v,S,rfl,hv,K⟩
 let O:Gh:=⟨S.H,λd=>if d<k then g.γ d else S.γ (B d)⟩
 have E:gw (λd=>k<=d) ⟨S.H,λd=>S.γ<|B d⟩ O:=⟨cD.refl _,λd l=>by show(if d<k then _ else _)=_;rw[j Y]⟩
 have U:∀d b,(St.kn ⟨[(0,a7)],fm,0,[]⟩) (.m d)=ae (.b b)->L d fm=ae b:=λd b e=>by simp only[St.kn,bS]at e;obtain⟨x,C,A⟩:=e;cases A;exact C
 have hS:∀t u,(St.kn ⟨[(0,a7)],fm,0,[]⟩) (.s t)=ae (.v u)->t=0/\u=a7:=λt u e=>by
  simp only[St.kn,L,bS]at e;obtain⟨x,C,A⟩:=e;cases A;split at C
  .rename_i e;cases C;exact⟨e.symm,J⟩
  .cases C
 have hB:∀d b,L d fm=ae b->gL F.N O W' d b:=λd b e=>by obtain⟨m1,m2,m3⟩:=D d b e;have hr:=K.cE (B d) (pZ B b) (by simp[St.kn,m1]);have Jz:=W6 hr;have hr3:=Jz.step (known:=λd=>k<=d) (chg:=λ_=>False) (g':=O) (W':=W') ⟨E,λ_ _ _=>rfl,K.sub,aN _,λ_ _ _=>rfl,J,J,J⟩ m2.1 (λT hj=>(m3 T hj).1)<|λ_ _ z=>z.elim;exact hr3.Oe (λx _ _ _ _ C=> .inl<|bZ p.below.size<|C.resolve_right<|λz=>z)<|λx _ C=> .inl<|bZ p.below.size<|C.resolve_right<|λz=>z
 refine⟨v,O,J,J,p.defers,?_,λd b e=>hB d b<|U d b e,?_,?_,?_,K.sub,?_,p.le.trans K.le,?_,?_⟩
 .intro t u e;obtain⟨rfl,rfl⟩:=hS t u e;have:=bf.mono E (λd l=>(Hs d l).1)<|W5 hv;simpa[nC]using this
 .intro d i b X kk e e' hk uc;have e:=U _ _ e;have e':=U _ _ e';obtain⟨m1,m2,m3⟩:=D d b e;obtain⟨n1,n2,n3⟩:=D i X e';refine asA d i vd (by rw[e'];rfl) (K.inj (B d) (B i) _ _ kk (by simp[St.kn,m1];rfl) (by simp[St.kn,n1];rfl) ?_ ?_)
  .have:=hk;simp only[O,j (Y:¬d<k)]at this;exact this
  .have:=uc;simp only[O,j (Y:¬i<k)]at this;exact this
 .intro key x e d l;cases key with
  |s t=>
   cases x with
   |v u=>obtain⟨rfl,rfl⟩:=hS t u e;exact(Hs d l).2
   |b X=>simp only[St.kn,bS]at e;obtain⟨_,_,A⟩:=e;cases A
  |m T=>
   cases x with
   |v v'=>simp only[St.kn,bS]at e;obtain⟨_,_,A⟩:=e;cases A
   |b X=>exact((D T X<|U T X e).2.2 d l).2
 .intro d x e;cases x with
  |v v'=>simp only[St.kn,bS]at e;obtain⟨_,_,A⟩:=e;cases A
  |b X=>exact((D d X<|U d X e).2.1).2
 .exact⟨K.below.os.trans p.below.os,K.below.tape.trans p.below.tape,K.below.output.trans p.below.output,bZ p.below.size K.below.size,λkk hk M=>by rw[K.below.block kk (fY hk p.below.size) (λz=>z)];exact p.below.block kk hk M⟩
 .intro b o hb M;show S.H b o=F.H0 b o;rw[K.fresh b o (fY hb p.below.size) (λz=>z)];exact p.fresh b o hb M
 .intro d l;obtain⟨i1,i2⟩:=p.fB d l;exact⟨fY i1 lU,by show(if d<k then _ else _)=_;rw[q i1];exact i2⟩
end
section
variable{n:G}{sl sl':E (G×AV)}{mem bT:E (G×aC)}{nx:G}{gd gd':E (G×Bool)}{ops:Array a8}{draw:Bool}{p:Pr}{ks dA:E Ks}{i i' n0 cu:G}
variable{R:St->Prop}{os:E a8}{d f:G}{ty:eh}{pos:String}{iB:Array Edge}{dN:E a8}
def agz{first a}{g l}(m:runs dE n nx draw ops.toList os i ⟨sl,mem,n0,gd⟩ .t ks=(⟨ae d,.makeFunc (.func f) first a,ty,pos,iB,none⟩::dN,i',⟨sl',bT,cu,gd'⟩,p,dA))(s:uo ⟨sl',bT,cu,gd'⟩ first.toList=ae g)(u:uo ⟨sl',bT,cu,gd'⟩ a.toList=ae l)
  (v:∀k,RG r n ops draw nx (i'+1) dN ⟨(d,.c<|.X<|1000000*nx+1000*i')::sl',(1000000*nx+1000*i',.dS f g l)::bT,cu,gd'⟩ (dA++[k]) R)
  (x:p:=by exact Cy) (b:dK d n=af:=by rfl):RG r n ops draw nx i os ⟨sl,mem,n0,gd⟩ ks R:=
 jJ cp m x (asy s u v b)
end
def asC{f}{mem a}{g}{i}{d}{l}{k}(p:∀n b,L n a=ae b->k<=n):St.kn ⟨(d,l)::f,a++mem,g,i⟩=bs (St.kn ⟨f,mem,g,i⟩) ((.s d,ae<|.v l)::kM k a):=by
 funext key;cases key with
 |s t=>
  by_cases e:d=t
  .subst e;simp[St.kn,L,bs,aE]
  .simp[St.kn,L,bs,aE,e,yG]
 |m j=>
  simp only[St.kn,bs,aE,yH,Qg]
  cases h:L j a with
  |none=>simp
  |some b=>simp[p j b h]
section
variable{n:G}{sl sl':E (G×AV)}{mem bT:E (G×aC)}{nx:G}{gd gd':E (G×Bool)}{ops:Array a8}{draw:Bool}{p:Pr}{ks dA:E Ks}{i i' n0 cu:G}
variable{R:St->Prop}{os:E a8}{d f:G}{args:Array Operand}{kj:Array eh}{ty:eh}{pos:String}{iB:Array Edge}{dN:E a8}{vs:E AV}{r:AV}{xo:E (G×aC)}{k':G}
def rcN(a:runs dE n nx draw ops.toList os i ⟨sl,mem,n0,gd⟩ .t ks=(⟨ae d,.call ⟨.value<|.func f,args,kj⟩,ty,pos,iB,none⟩::dN,i',⟨sl',bT,cu,gd'⟩,p,dA))(z:kh ⟨sl',bT,cu,gd'⟩ args.toList=ae vs)(A:CX Tryz.prog f vs [] (1000000*nx+1000*i') r xo k')
  (l:k'<=1000000*nx+1000*(i'+1)) (m:∀g∈r.al,1000000*nx+1000*i'<=g) (B:∀g b,L g xo=ae b->1000000*nx+1000*i'<=g) (s:∀g b,L g xo=ae b->∀D∈b.al,1000000*nx+1000*i'<=D)
  (H:∀k,RG Tryz.prog n ops draw nx (i'+1) dN ⟨(d,r)::sl',xo++bT,cu,gd'⟩ (dA++[k]) R)
  (N:p:=by exact Cy) (P:cO vs=[]:=by rfl) (u:dK d n=af:=by rfl):RG Tryz.prog n ops draw nx i os ⟨sl,mem,n0,gd⟩ ks R:=
 jJ cp a N (Xv (k:=(_,_)) (λC=>aso C J J (cQ u) J z P A l m s) (λK v=>by let ⟨x,_,a⟩:=iY.1 v;exact eC _ x K a) (asC B) (λ_ a=>a) (λ_ a=>a)<|H _)
end
open Classical in
def agB{n}{k b}(l:Wk k b):iC n .normal k v7 (λd m a W=>m= .normal/\∃g,aM (d.dr []) (kb b) b.kn g W a):=λd _ f p g W a s t=>by have i:p=[]:=t;subst i;let ⟨u,v⟩:=l (d.dr []) f g W a s;exact⟨J,u,v⟩
def QJ n g(b:g≠0)(d:Sm n)(a:Sm g):aq r 147 [aZ n,aZ g] (aZ<|n/g):=by refine aS Tryz.func147 ?_;refine e J<|bL J J (GQ n g b d a) J<|e J<|cd J ?_;rfl
def Sm.gcd{n d}(g:d≠0)(a:Sm d):Sm ((iR n d:G):V):=by have b:iR n d<=aD d:=Nat.gcd_le_right _ Y;have f:Z (R<|aD<|((iR n d:G):V))<=Z (R<|aD d):=uE (by rw[pe];exact b);exact bZ f a
def Sm.ng{z}(a:Sm z):Sm (-z):=by
 have e:eX (-z)=eX z:=by unfold eX;rw[Int.natAbs_neg]
 unfold Sm at*;rw[e];exact a
def QK n d(g:d≠0)(i:Sm n)(a:Sm d):aq r 92 [aZ n,aZ d] (aQ<|kC n d):=by
 refine aS Tryz.func92 ?_;have k:iR n d≠0:=λl=>g (VE.1 l).2
 let ⟨p1,f⟩:=OV n d g;have b:Sm ((iR n d:G):V):=Sm.gcd g a;refine e J<|bL J J (Pl n d i a) J<|bA<|w<|rc J J (Dr d)<|O J ?_;refine F J (λh=>?_)<|λh=>?_
 .have h:d<0:=by
   have h:fU d<0:=eQ;unfold fU at h;split at h
   .assumption
   ·(try split at h)<;>omega
  rw[q h]at p1 f;refine cL<|rc J J (Vv _)<|O J<|aR<|w ?_;refine rc J J (QJ n _ Y i<|Sm.ng b)<|rc J J (QJ d _ Y a<|Sm.ng b)<|O J<|cd J ?_;unfold aQ;simp only[av,p1,f];rfl
 .have h:¬d<0:=by
   have h:¬fU d<0:=eQ;unfold fU at h;split at h
   .omega
   .assumption
  rw[j h]at p1 f;refine aG<|w ?_;refine rc J J (QJ n _ Y i b)<|rc J J (QJ d _ Y a b)<|O J<|cd J ?_;unfold aQ;simp only[av,p1,f];rfl
def Xz n d(b:d≠0)(f:Sm n)(a:Sm d):aq r 134 [aZ n,aZ d] (.t [(af,av .q<|kC n d),(ak,[.I .i64 0])]):=by
 refine aS Tryz.func134 ?_;refine e J<|bA<|bL J J (Dr d) J ?_;refine F J (λh=>?_)<|λh=>?_
 .exfalso;have h:fU d=0:=eQ;unfold fU at h;split at h
  .omega
  ·(try split at h)<;>omega
 .refine aG<|bL J J (QK n d b f a) J<|cd J ?_;rfl
def Lt{k}a b(f:QS k a)(g:QS k b)(l:k<=500000000000):aq r 41 [aQ a,aQ b] (aQ<|a*b):=by
 refine aS Tryz.func41 ?_;have m:=Dw (den_pos a)<|den_pos b;have i:kC (a.num*b.num) ((a.den:V)*(b.den:V))=a*b:=by rw[<-Hq,po,po]
 rw[<-i];refine e J<|w<|rc J J (mb _ _ (f.n.sm Y)<|g.n.sm Y)<|rc J J (mb _ _ (f.d.sm Y)<|g.d.sm Y)<|rc J J (QK _ _ Y ((f.n.mul g.n).sm Y)<|(f.d.mul g.d).sm Y)<|O J<|cd J ?_;rfl
def asD{k}a b(f:QS k a)(g:QS k b)(t:k<=500000000000):aq r 42 [aQ a,aQ b] (aQ<|a+b):=by
 refine aS Tryz.func42 ?_;have i:=f.n.mul g.d;have l:=g.n.mul f.d;have m:=f.d.mul g.d;have p:=i.add l;have u:=Dw (den_pos a)<|den_pos b;have s:kC (a.num*(b.den:V)+b.num*(a.den:V)) ((a.den:V)*(b.den:V))=a+b:=by have v:=den_pos a;have x:=den_pos b;rw[<-Xp _ _ Y Y,po,po]
 rw[<-s];refine e J<|w<|rc J J (mb _ _ (f.n.sm Y)<|g.d.sm Y)<|rc J J (mb _ _ (g.n.sm Y)<|f.d.sm Y)<|rc J J (yZ _ _ (i.sm Y)<|l.sm Y)<|rc J J (mb _ _ (f.d.sm Y)<|g.d.sm Y)<|rc J J (QK _ _ Y (p.sm Y)<|m.sm Y)<|O J<|cd J ?_;rfl
def asE a:aq r 46 [aQ a] (aQ<| -a):=by refine aS Tryz.func46 ?_;refine e J<|bL J J (Vv a.num) J<|cd J ?_;rfl
def asF{k}a b(f:QS k a)(g:QS k b)(i:k<=500000000000):aq r 216 [aQ a,aQ b] (y<|eE (a.num*(b.den:V))<|b.num*(a.den:V)):=by refine aS Tryz.func216 ?_;refine e J<|w<|rc J J (mb _ _ (f.n.sm Y)<|g.d.sm Y)<|rc J J (mb _ _ (g.n.sm Y)<|f.d.sm Y)<|rc J J (OS _ _)<|O J<|di J
def asG{k}a b(i:b.num≠0)(f:QS k a)(g:QS k b)(p:k<=500000000000):aq r 133 [aQ a,aQ b] (.t [(af,av .q<|a/b),(ak,[.I .i64 0])]):=by
 refine aS Tryz.func133 ?_;have l:(a.den:V)*b.num≠0:=zz (by have:=den_pos a;omega) i;have m:kC (a.num*(b.den:V)) ((a.den:V)*b.num)=a/b:=by rw[<-Hq,po,tE];congr 1;conv=>rhs;rw[<-po b,Rat.inv_divInt]
 rw[<-m];refine e J<|w<|rc J J (mb _ _ (f.n.sm Y)<|g.d.sm Y)<|rc J J (mb _ _ (f.d.sm Y)<|g.n.sm Y)<|rc J J (Xz _ _ l ((f.n.mul g.d).sm Y)<|(f.d.mul g.n).sm Y)<|O J<|cd J ?_;rfl
def agC a(g:Sm a):aq r 93 [aZ a] (cB af):=by
 refine aS Tryz.func93 ?_;have i:Z (R<|aD a)<=1099511627776:=g;have d:Z (eX a)<=1099511627776:=g;refine e J<|e J<|h<|e J<|F J (λb=>?_)<|λb=>aG ?_
 .have b:(Z (R<|aD a):V)=0:=eS b;have l:a=0:=by have:¬0<Z (R<|aD a):=Y;rw[qJ]at this;omega
  subst l;exact e J<|bX<|da<|atR J
 .have b:(Z (R<|aD a):V)≠0:=pa b;have k:0<Z (eX a):=by show 0<Z (R<|aD a);omega
  refine e J (hp:=aH)<|cd J ?_;have m:=xH<|aD a;refine bl cB ?_;rcases m with f|f
  .rw[f]at b;simp at b
  .show(I (R<|aD a) (ah<|(Z (R<|aD a):V)-1) 0 !=0)=af;rw[(Y:ah ((Z (R<|aD a):V)-1)=Z (R<|aD a)-1)];simpa using f
def agD a b(l:Sm a):aq r 68 [aZ a,aZ b] (cB<|decide<|a=b):=by
 refine aS Tryz.func68 ?_;have l:Z (eX a)<=1099511627776:=l;refine e J<|h<|w<|rg 11 J J (λd=>?_)<|λd=>?_
 .have d:cv a≠cv b:=afS.1 d;refine O J<|F J (λ_=>e J<|bX<|da<|fO J<|bl cB ?_)<|λh2=>sc;rw[tj (λk=>d<|by rw[k])]
 .have d:cv a=cv b:=by
   have d:¬(cv a !=cv b)=af:=by rw[d];decide
   rw[afS]at d;exact Decidable.not_not.1 d
  refine O J<|F J (λh2=>?_)<|λh2=>aG ?_
  .have h2:=Bh h2;refine e J<|bX<|da<|fO J<|bl cB ?_;rw[tj (λk=>h2<|by rw[k])]
  .have h2:=zd h2;refine h<|e J<|aA<|bx (α:=G) (λi=>⟨[(2,.c<|.P 0 0),(3,.c<|.P 1000 0),(5,y i)],[(0,.box 42 0<|av .z a),(1000,.box 42 0<|av .z b)],4,[]⟩) (λi=>i<=Z (eX a)/\c i (eX a)=c i (eX b)) (λi=>Z (eX a)-i) 0 ⟨bm _,ax⟩ (wk (bP J) ⟨bE J J,bE J J,M⟩) ?_;rintro i ⟨m,ht⟩;refine h (e J<|F J (λf=>?_)<|λf=>?_)
   .have f:i<Z (eX a):=by have f:(i:V)<(Z (eX a):V):=aX f;omega
    refine aG<|h<|aA<|e J (hp:=aH)<|F J (λg=>?_)<|λg=>dk<|bU ?_
    .have g:I (eX a) i 0≠I (eX b) i 0:=Bh g;refine e J<|bX ?_;repeat(first|refine da ?_|refine mz ?_|refine m0 ?_)
     refine fO J<|bl cB ?_;rw[tj (λk=>g<|by rw[k])]
    .have g:I (eX a) i 0=I (eX b) i 0:=zd g;exact rt J<|a6 (i+1) ⟨f,by rw[tv _ i f,tv _ i Y,ht,g]⟩ (Y:Z (eX a)-(i+1)<Z (eX a)-i)<|wk (bP J) ⟨bE J J,bE J J,M⟩
   .have f:i=Z (eX a):=by have f:¬(i:V)<(Z (eX a):V):=bh f;omega
    subst f;rw[ik,jy Y]at ht;refine bD<|aR<|e J<|cd J<|bl cB ?_;rw[tk (arA d ht)]
def QL{k}a b(i:QS k a)(l:k<=100000000000):aq r 21 [aQ a,aQ b] (cB<|decide<|a=b):=by
 refine aS Tryz.func21 ?_;refine e J<|w<|rc J J (agD a.num b.num<|i.n.sm Y)<|rg 10 J J (λh=>?_)<|λh=>?_
 .have h:a.num=b.num:=aX h;refine mD J J J J J (agD (a.den:V) (b.den:V)<|i.d.sm Y)<|O J<|cd J ?_;refine bl cB ?_;by_cases f:(a.den:V)=(b.den:V)
  .rw[tk f,tk<|Rat.ext h Y];rfl
  .rw[tj f,tj<|λg=>f<|by rw[g]];rfl
 .have h:¬a.num=b.num:=bh h;refine O J<|cd J ?_;refine bl cB ?_;rw[tj (λg=>h<|by rw[g])]
def asH{k}a(b:QS k a)(i:k<=100000000000):aq r 39 [aQ a] (cB af):=by
 refine aS Tryz.func39 ?_;have l:=den_pos a;refine e J<|bA<|w<|rc J J (agC a.num<|b.n.sm Y)<|rg 7 J J (λh=>gD)<|λ_=>?_;refine mD J J J J J (agC (a.den:V)<|b.d.sm Y)<|rg 13 J J (λh=>gD)<|λ_=>?_;refine mD J J J J J (Dr (a.den:V))<|O J<|F J (λh=>?_)<|λ_=>aG ?_
 .exfalso;have h:fU (a.den:V)<1:=aX h;unfold fU at h;split at h
  .omega
  .split at h<;>omega
 have f:=Pl a.num (a.den:V) (b.n.sm Y)<|b.d.sm Y;have g:iR a.num (a.den:V)=1:=a.reduced;rw[g]at f;refine w<|rc J J f<|rc J J (jO 1 o o)<|rc J J (OS ((1:G):V) 1)<|O J<|di J
def fX(a b:E U):E U:=if Z a<Z b then a else gH ((dR (I b (Z b-1) 0)⁻¹ a b (Z b-1) (Z a+1-Z b) (Z a+1-Z b)).2.take<|Z b-1)
def eZ(a:E U):E U:=if a=[]then[]else gH (wL (I a (Z a-1) 0)⁻¹ a)
def kY:G->E U->E U->E U
 |0,a,_=>a
 |k+1,a,b=>if b=[]then a else kY k b (eZ<|fX a b)
structure D5(s:G)(a b:E U):Prop where
 la:a.length<=500
 lb:b.length<=500
 bn:b.getD (b.length-1) 0≠0
 qb:∀i,QS s (b.getD i 0)
 qS:∀d,d<=a.length+1-b.length->∀i,QS s ((dR (b.getD (b.length-1) 0)⁻¹ a b (b.length-1) (a.length+1-b.length) d).2.getD i 0)
 rn:fX a b≠[]->(fX a b).getD ((fX a b).length-1) 0≠0
 qr:∀i,QS s ((fX a b).getD i 0)
def BG(s:G):G->E U->E U->Prop
 |0,_,b=>b=[]
 |k+1,a,b=>b=[]\/(D5 s a b/\BG s k b (eZ<|fX a b))
def Hu l:Z (gH l)<=Z l:=XA
def xZ{a b}(d:b≠[]):Z (fX a b)<Z b:=by
 have f:=cR.2 d;unfold fX;split
 .assumption
 .exact tm (Hu _) Kg
abbrev UT:ET:= .pr (.sl .q) ot
namespace Rx
def XB(l:E U):∀n,ln l n<=n/\(∀i,ln l n<=i->i<n->I l i 0=0)/\(ln l n=0\/I l (ln l n-1) 0≠0)
 |0=>⟨aN _,λi _ a=>aJ a Y,.inl J⟩
 |n+1=>by
  rw[ln];split
  .rename_i a;let ⟨d,b,f⟩:=XB l n;refine⟨Y,λi g k=>?_,f⟩;by_cases e:i=n
   .subst e;exact Rat.num_eq_zero.1 a
   .exact b i g Y
  .rename_i a;exact⟨aN _,λi d b=>aJ b Y,.inr λe=>a<|by rw[eD]at e;rw[e];rfl⟩
def Hv(a:E U) n i:(c n a).getD i 0=if i<n then I a i 0 else 0:=by
 rw[aO,Iv];split
 .rw[aO]
 .rfl
def agE{l}{n}(a:∀i,n<=i->I l i 0=0):lx (c n l)=lx l:=ext λi=>by
 rw[eG,eG,Hv];split
 .rfl
 .exact(a i Y).symm
def tI l:lx (gH l)=lx l:=agE λi a=>by
 by_cases e:i<Z l
 .exact(XB l<|Z l).2.1 i a e
 .exact gk l Y
def jF l:bM (gH l):=by
 let ⟨d,h2,a⟩:=XB l<|Z l;have b:Z (gH l)=ln l (Z l):=XA;rcases a with a|a
 .exact .inl<|gA Y
 .by_cases e:ln l (Z l)=0
  .exact .inl<|gA Y
  .right;rw[b];unfold gH;rw[Hv,q Y];exact a
def bM.ne{a}(b:bM a)(d:a≠[]):I a (Z a-1) 0≠0:=b.resolve_left d
def Hw{a}(b:bM a)(d:a≠[]):lx a≠0:=λe=>d<|sf b wC<|e.trans mI.symm
def agF b a:lx (wL b a)=K b*lx a:=ext λi=>by rw[eF];exact agm b a i
def asI a:lx (uS a)=bG (lx a):=ext λi=>by
 rw[si,eG,eG];by_cases h:i<Z a-1
 .rw[agn h];rfl
 .rw[gk (uS a) (by rw[Xs];omega),gk a Y,dU]
def Lu{r b}a{k}(f:k+Z b<=Z r):lx (kD r a b k)=lx r+K a*(X k*lx b):=ext λi=>by
 rw[dP,eF,kU,eG,eG];by_cases d:i<Z r
 .rw[show I (kD r a b k) i 0=_ from wK d];by_cases e:k<=i/\i<k+Z b
  .rw[q e,q e.1];rfl
  .rw[j e];split
   .rw[eG,gk b Y,dU,oC]
   .rw[dU,oC]
 .rw[gk (kD r a b k) (by rw[kD,oG];omega),gk r Y];split
  .rw[eG,gk b Y,dU,oC]
  .rw[dU,oC]
def asJ a d b:lx (zJ a d b)=lx a+K d*lx b:=by unfold zJ;rw[Lu d (by rw[QE Y];omega),Wu,cY];congr 1;exact ext λi=>ago a _ i
def asK{l}{k}t(a:k<Z l)(b:I l k 0=0):lx (l.set k t)=lx l+K t*X k:=ext λi=>by
 rw[dP,eF,oF,eG,eG,D1 i t a];by_cases e:k=i
 .subst e;rw[q J,q J,b];grind
 .rw[j e,j<|λa=>e a.symm];grind
def XC{a b:E U}{n m:G}(s:Z b=n+1)(t:Z a=n+m)(v:I b n 0≠0):∀d,d<=m->
  lx a=lx (dR (I b n 0)⁻¹ a b n m d).1*lx b+lx (dR (I b n 0)⁻¹ a b n m d).2/\(∀i,i<m-d->(dR (I b n 0)⁻¹ a b n m d).1.getD i 0=0)/\(∀i,n+(m-d)<=i->(dR (I b n 0)⁻¹ a b n m d).2.getD i 0=0)
 |0,_=>by have f:∀i,I (bt m (0:U)) i 0=0:=Lq m;refine⟨?_,λi _=>f i,λi g=>gk a Y⟩;show lx a=lx (bt m 0)*lx b+lx a;rw[show lx (bt m (0:U))=0 from ext f,dw,im]
 |d+1,z=>by
  let ⟨l,h2,p⟩:=XC s t v d Y;let ⟨l1,l2⟩:=BF (I b n 0)⁻¹ a b n m d;rw[dR];generalize dR (I b n 0)⁻¹ a b n m d=x at*;let ⟨B,r⟩:=x;simp only at l h2 p l1 l2⊢;refine⟨?_,λi g=>?_,λi g=>?_⟩
  .rw[asK _ Y (h2 _ Y),Lu _ Y,l,gh,Bq,neg_mul,c9 (K _)<|X _];generalize K (I r (m-1-d+n) 0*(I b n 0)⁻¹)*(X (m-1-d)*lx b)=u;rw[jR,<-jR u,js u,jR<|lx r,kT,fq]
  .rw[D1 i _ Y,j Y,h2 i Y]
  .have:=bl (λA:Rx=>A i)<|Lu (r:=r) (b:=b) (-(I r (m-1-d+n) 0*(I b n 0)⁻¹)) (k:=m-1-d) Y;simp only[dP,eF,kU,eG]at this;rw[this,q Y];by_cases e:i=m-1-d+n
   .subst e;rw[(Y:m-1-d+n-(m-1-d)=n)];grind
   .rw[p i Y,gk b (i:=i-(m-1-d)) Y];grind
def jV(a b:E U):E U:=if Z a<Z b then[]else gH (dR (I b (Z b-1) 0)⁻¹ a b (Z b-1) (Z a+1-Z b) (Z a+1-Z b)).1
def QM a b:bM (jV a b):=by
 unfold jV;split
 .exact wC
 .exact jF _
def XD{a b}(f:bM b)(d:b≠[]):lx a=lx (jV a b)*lx b+lx (fX a b):=by
 have l:=cR.2 d;unfold jV fX;by_cases h:Z a<Z b
 .rw[q h,q h,mI,dw,im]
 .rw[j h,j h,tI,tI];let ⟨g,_,k⟩:=XC (a:=a) (b:=b) (n:=Z b-1) (m:=Z a+1-Z b) Y Y (f.ne d) _<|aN _;rw[agE (λi p=>k i Y)];exact g
def wM{a b}(d:bM a):bM (fX a b):=by
 unfold fX;split
 .exact d
 .exact jF _
def DU{a b}(k:bM a)(g:bM b)(d:b≠[])(i:lx b∣lx a):lx a=lx (jV a b)*lx b:=by
 have f:=XD (a:=a) g d;have l:lx (fX a b)=0:=by
  refine uJ (A:=lx b) ?_ ?_
  .rw[f]at i;exact zn i<|jd _ _
  .rw[eJ (wM k),eJ g];exact xZ d
 rw[l,fq]at f;exact f
def uT a:bM (eZ a):=by
 unfold eZ;split
 .exact wC
 .exact jF _
def BH{a}(b:a≠[]):lx (eZ a)=K (I a (Z a-1) 0)⁻¹ *lx a:=by rw[eZ,j b,tI,agF]
def QN:eZ []=[]:=q J
def uU{a:U}(b:a≠0):a⁻¹ ≠0:=λe=>by have:=nV _ b;rw[e,ni]at this;exact aJ this o
def XE{a}(d:bM a)(b:a≠[]):Mo (lx<|eZ a):=by have g:=cR.2 b;have f:=dV (tD<|uU<|d.ne b)<|Hw d b;rw[wD (uU<|d.ne b),eJ d]at f;rw[BH b,Mo,eF,(Y:sz (K (I a (Z a-1) 0)⁻¹ *lx a)-1=Z a-1),eG,nV _<|d.ne b]
def QO{a}(d:bM a):Z (eZ a)=Z a:=by
 by_cases b:a=[]
 .subst b;rw[QN]
 .have f:=dV (tD<|uU<|d.ne b)<|Hw d b;rw[wD (uU<|d.ne b),eJ d,<-BH b,eJ<|uT a]at f;omega
def QP a:lx a∣lx (eZ a)/\(bM a->lx (eZ a)∣lx a):=by
 by_cases b:a=[]
 .subst b;rw[QN];exact⟨oD _,λ_=>oD _⟩
 .rw[BH b];refine⟨jd _ _,λh=>⟨K<|I a (Z a-1) 0,?_⟩⟩;rw[<-c9,c8 (K _)<|K _,tC<|h.ne b,cY]
def agG:∀(k:G)(a b:E U),bM a->bM b->Z b<k->bM (kY k a b)/\lx (kY k a b)∣lx a/\lx (kY k a b)∣lx b/\∃f d,lx (kY k a b)=f*lx a+d*lx b
 |0,_,_,_,_,p=>by omega
 |k+1,a,b,i,l,p=>by
  rw[kY];split
  .rename_i g;subst g;exact⟨i,oD _,by rw[mI];exact uI _,1,0,by rw[cY,dw,fq]⟩
  .rename_i g;have t:=xZ (a:=a) g;have m:=wM (b:=b) i;have n:=XD (a:=a) l g;let ⟨i1,i2,i3,f,d,i4⟩:=agG k b (eZ<|fX a b) l (uT _) (by rw[QO m];omega);let ⟨d1,d2⟩:=QP<|fX a b;let ⟨w,hw⟩:=d1;have s:=fG i3<|d2 m;refine⟨i1,by rw[n];exact iI (eW i2 _) s,i2,d*w,f-d*w*lx (jV a b),?_⟩;rw[i4,hw,n,fE,qT];have:d*w*(lx (jV a b)*lx b)+d*w*lx (fX a b)+(f*lx b-d*w*lx (jV a b)*lx b)=(f*lx b-d*w*lx (jV a b)*lx b+d*w*lx (jV a b)*lx b)+d*(w*lx (fX a b)):=fF;rw[this,lE]
def asL{k}{a b}(g:bM a)(i:bM b)(l:Z b<k)(m:a≠[]):kY k a b≠[]/\bM (eZ<|kY k a b)/\KT (lx<|eZ<|kY k a b) (lx a) (lx b):=by
 let ⟨f,h2,n,U,V,p⟩:=agG k a b g i l;have d:kY k a b≠[]:=λe=>by rw[e,mI]at h2;let ⟨w,hw⟩:=h2;rw[g8]at hw;exact Hw g m hw
 let ⟨d1,d2⟩:=QP<|kY k a b;let ⟨w,hw⟩:=d1;refine⟨d,uT _,XE f d,fG (d2 f) h2,fG (d2 f) n,w*U,w*V,?_⟩;rw[hw,p,fE,c9,c9]
end Rx
def D6(xs:E U)(i:Z xs<=1000000):aq r 62 [S .q xs] (S .q<|gH xs):=by
 refine aS Tryz.func62 ?_;refine e J<|e J ?_;refine h<|aA<|bx (α:=G) (λk=>⟨[(0,S .q xs),(3,y k)],[],2,[]⟩) (λk=>k<=Z xs/\ln xs k=ln xs (Z xs)) (λk=>k) (Z xs) ⟨aN _,J⟩ aY ?_;rintro k ⟨l,a⟩;have d:ln xs k=k->bq (S .q<|c k xs) (S .q<|gH xs):=λf=>by refine bq.of_eq ?_;unfold gH;rw[<-a,f]
 refine h<|w ?_;refine rg 8 J J (λb=>?_)<|λb=>?_
 .have b:0<k:=by have b:(k:V)>0:=aX b;omega
  obtain⟨j,rfl⟩:∃j,k=j+1:=⟨k-1,Y⟩;have g:ah (((j+1:G):V)-1)=j:=Y;refine mD J J J J J (VC<|I xs (ah<|((j+1:G):V)-1) 0) (O J ?_) (hp:=lB);refine F J (λh2=>?_)<|λh2=>?_
  .have h2:(I xs j 0).num=0:=by have h2:fU (I xs (ah<|((j+1:G):V)-1) 0).num=0:=eS h2;rw[g]at h2;exact xY.1 h2
   refine aG<|aA<|rt J (fT<|a6 j ⟨Y,?_⟩ uD<|wk ⟨sR J,sE J ?_,M⟩ M) (hp:=lB)
   .rw[<-a,ln,q h2]
   .exact jC (Y:((j+1:G):V)-1=(j:V))
  .have h2:(I xs j 0).num≠0:=by have h2:fU (I xs (ah<|((j+1:G):V)-1) 0).num≠0:=pa h2;rw[g]at h2;exact λf=>h2 (xY.2 f)
   exact bD<|aR<|e J (bX<|iZ cp J<|d<|by rw[ln,ma h2]) (hp:=aH)
 .have b:k=0:=by have b:¬(k:V)>0:=bh b;omega
  subst b;exact O J<|F J (λh2=>sc)<|λ_=>bD<|aR<|e J (bX<|iZ cp J<|d J) (hp:=aH)
def agH(a:E U)(i:G):aq r 89 [S .q a,y i] (aQ<|I a i 0):=by
 refine aS Tryz.func89 ?_;refine e J<|h<|e J<|F J (λb=>?_)<|λb=>?_
 .have b:i<Z a:=by have b:(i:V)<(Z a:V):=aX b;omega
  refine e J (hp:=aH)<|bX<|da<|fO J ?_;rfl
 .have b:¬i<Z a:=by have b:¬(i:V)<(Z a:V):=bh b;omega
  refine aG<|bL J J (y6 0 o o) J<|cd J ?_;rw[Rx.gk a Y];rfl
def asM(xs:E U)(l:Z xs<=1000000):QF r 62 [.c (.X 2002000)] [(2002000,.vec 44 .q xs)] (S .q<|gH xs):=by
 refine asq 3 Tryz.func62 J J J (λm f=>by rw[iM.1 f];decide) (xX.of J) J o ?_;refine fg (MY 2002000 J) ?_;refine e J<|e J ?_;refine h<|aA<|bx (α:=G) (λk=>⟨[(0,S .q xs),(3,y k)],[],5,[]⟩) (λk=>k<=Z xs/\ln xs k=ln xs (Z xs)) (λk=>k) (Z xs) ⟨aN _,J⟩ aY ?_;rintro k ⟨n,a⟩;have d:ln xs k=k->bq (S .q<|c k xs) (S .q<|gH xs):=λg=>by refine bq.of_eq ?_;unfold gH;rw[<-a,g]
 refine h<|w ?_;refine rg 8 J J (λb=>?_)<|λb=>?_
 .have b:0<k:=by have b:(k:V)>0:=aX b;omega
  obtain⟨j,rfl⟩:∃j,k=j+1:=⟨k-1,Y⟩;have i:ah (((j+1:G):V)-1)=j:=Y;refine mD J J J J J (VC<|I xs (ah<|((j+1:G):V)-1) 0) (O J ?_) (hp:=lB);refine F J (λh2=>?_)<|λh2=>?_
  .have h2:(I xs j 0).num=0:=by have h2:fU (I xs (ah<|((j+1:G):V)-1) 0).num=0:=eS h2;rw[i]at h2;exact xY.1 h2
   refine aG<|aA<|rt J (fT<|a6 j ⟨Y,?_⟩ uD<|wk ⟨sR J,sE J ?_,M⟩ M) (hp:=lB)
   .rw[<-a,ln,q h2]
   .exact jC (Y:((j+1:G):V)-1=(j:V))
  .have h2:(I xs j 0).num≠0:=by have h2:fU (I xs (ah<|((j+1:G):V)-1) 0).num≠0:=pa h2;rw[i]at h2;exact λg=>h2 (xY.2 g)
   exact bD<|aR<|e J (bX<|agt cp J<|d<|by rw[ln,ma h2]) (hp:=aH)
 .have b:k=0:=by have b:¬(k:V)>0:=bh b;omega
  subst b;exact O J<|F J (λh2=>sc)<|λ_=>bD<|aR<|e J (bX<|agt cp J<|d J) (hp:=aH)
def mL(a:E U):E U:=gH<|0::a
def agI(a:E U)(d:Z a<=1000):aq r 88 [S .q a] (S .q<|mL a):=by
 refine aS Tryz.func88 ?_;refine e J<|w<|rc J J (y6 0 o o)<|ij .q [((0:V):U)] J J (O J ?_);refine w<|ra J J J J J J J J J ?_ ?_<|rcc (conc:=[]) (fm:=[(2002000,.vec 44 .q<|((0:V):U)::a)]) J J (asM _ QQ) (λf b h=>rfl)<|O J<|di J
 .show(1+Z a+(1+Z a)/4+192)*64<=_;omega
 .show(1+Z a)*4<=_;omega
def kZ(a b:E U):E U:=gH<|(cy<|max (Z a)<|Z b).map λi=>I a i 0+I b i 0
def fw(a:U)(b:E U):E U:=gH<|(cy<|Z b).map λi=>a*I b i 0
def XF(f:G->U) i:(cy<|i+1).map f=(cy i).map f++[f i]:=by rw[Ag,fL];rfl
def XG{k}a b(s:Z b<=1000)(g:QS k a)(l:∀i,QS k (I b i 0))(m:k<=500000000000):aq r 43 [aQ a,S .q b] (S .q<|fw a b):=by
 refine aS Tryz.func43 ?_;refine e J<|w<|ij .q [] J J (O J<|h<|e J ?_);refine aA<|bx (α:=G) (λi=>⟨[(1,S .q b),(2,.c<|.P 0 0),(5,.c<|.X 1000000),(6,y i)],[(0,.box 44 0<|av .q a),(1000000,.vec 44 .q<|(cy i).map λi=>a*I b i 0)],10,[]⟩) (λi=>i<=Z b) (λi=>Z b-i) 0 (bm _) (wk ⟨sR J,sR J,sR J,sE J J,M⟩<|ny J) ?_;intro i t;have n:Z ((cy i).map λi=>a*I b i 0)=i:=ax;refine h<|e J<|F J (λd=>?_)<|λd=>?_
 .have d:i<Z b:=by have d:(i:V)<(Z b:V):=aX d;omega
  have p:ah ((i:V))=i:=cx i;have f:=Lt a (I b (ah<|(i:V)) 0) g (l _) m;refine aG<|h<|aA<|cL ?_;refine rc J J f ?_ (hp:=aH);refine rl .q [a*I b (ah<|(i:V)) 0] J J (ra J J J J J J J J J ?_ ?_<|O J<|fT<|aR<|rt J (hp:=aH)<|a6 (i+1) d (Y:Z b-(i+1)<Z b-i)<|Wk.trans (wk (st':=⟨[(1,S .q b),(2,.c<|.P 0 0),(5,.c<|.X 11008000),(6,y (i+1:G))],[(0,.box 44 0<|av .q a),(11008000,.vec 44 .q<|(cy<|i+1).map λi=>a*I b i 0)],13,[]⟩) (bP J) ⟨bR J,bE J ?_,M⟩)<|Wk.trans (iw 1000000 11008000 J J J) aY)
  .show(Z ((cy i).map λi=>a*I b i 0)+1+(Z ((cy i).map λi=>a*I b i 0)+1)/4+192)*64<=_;omega
  .show(Z ((cy i).map λi=>a*I b i 0)+1)*4<=_;omega
  .rw[XF,p]
 .have d:i=Z b:=by have d:¬(i:V)<(Z b:V):=bh d;omega
  subst d;exact oc<|rH<|oS<|oe<|aR<|fg (MY 1000000 J)<|w<|rc J J (D6 _ Y)<|O J<|bX<|atR J
def QR{k}a b(t:Z a<=1000)(u:Z b<=1000)(l:∀i,QS k (I a i 0))(m:∀i,QS k (I b i 0))(n:k<=500000000000):aq r 36 [S .q a,S .q b] (S .q<|kZ a b):=by
 refine aS Tryz.func36 ?_;refine e J<|w<|ij .q [] J J (O J<|h<|e J ?_);obtain⟨M,g⟩:∃M,M=max (Z a) (Z b):=⟨_,J⟩;have p:(if(Z a:V)<(Z b:V)then(Z b:V)else(Z a:V))=(M:V):=by rw[g];split<;>omega
 refine aA<|bx (α:=G) (λi=>⟨[(0,S .q a),(1,S .q b),(5,.c<|.X 1000000),(6,y i)],[(1000000,.vec 44 .q<|(cy i).map λi=>I a i 0+I b i 0)],10,[]⟩) (λi=>i<=M) (λi=>M-i) 0 (bm _) (wk ⟨sR J,sR J,sR J,sE J J,ll⟩ ⟨bR J,ll⟩) ?_;intro i v;have s:Z ((cy i).map λi=>I a i 0+I b i 0)=i:=ax;refine h<|e J<|F J (λd=>?_)<|λd=>?_
 .have d:i<M:=by have d:(i:V)<_:=aX d;rw[q J]at d;split at d<;>omega
  have f:=asD (I a i 0) (I b i 0) (l i) (m i) n;refine aG<|h<|aA<|cL ?_;refine rc J J (agH a i)<|rc J J (agH b i)<|rc J J f ?_;refine rl .q [I a i 0+I b i 0] J J (ra J J J J J J J J J ?_ ?_<|O J<|fT<|aR<|rt J (hp:=aH)<|a6 (i+1) d yY<|Wk.trans (wk (st':=⟨[(0,S .q a),(1,S .q b),(5,.c<|.X 11009000),(6,y (i+1:G))],[(11009000,.vec 44 .q<|(cy<|i+1).map λi=>I a i 0+I b i 0)],13,[]⟩) (bP J) ⟨bE J ?_,ll⟩)<|Wk.trans (iw 1000000 11009000 J J J) aY)
  .show(Z ((cy i).map λi=>I a i 0+I b i 0)+1+(Z ((cy i).map λi=>I a i 0+I b i 0)+1)/4+192)*64<=_;omega
  .show(Z ((cy i).map λi=>I a i 0+I b i 0)+1)*4<=_;omega
  .rw[XF]
 .have d:i=M:=by have d:¬(i:V)<_:=bh d;rw[q J]at d;split at d<;>omega
  subst d;subst g;exact oc<|rH<|oS<|oe<|aR<|fg (MY 1000000 J)<|w<|rc J J (D6 _ Y)<|O J<|bX<|atR J
def D7 l i:I (gH l) i 0=I l i 0:=by have:=bl (λA:Rx=>A i)<|Rx.tI l;exact this
def agJ(f:G->U) n i:I ((cy n).map f) i 0=if i<n then f i else 0:=by
 rw[aO,jn];by_cases h:i<n
 .rw[lp h,q h];rfl
 .rw[jB b6,j h];rfl
def QT a b i:I (kZ a b) i 0=I a i 0+I b i 0:=by
 rw[kZ,D7,agJ];split
 .rfl
 .rw[Rx.gk a Y,Rx.gk b Y,oC]
def wO a b i:I (fw a b) i 0=a*I b i 0:=by
 rw[fw,D7,agJ];split
 .rfl
 .rw[Rx.gk b Y,dU]
def agK a i:I (mL a) i 0=I (0::a) i 0:=D7 _ i
def Lv a b:Rx.lx (kZ a b)=Rx.lx a+Rx.lx b:=Rx.ext λi=>QT a b i
def BI a b:Rx.lx (fw a b)=Rx.K a*Rx.lx b:=Rx.ext λi=>by rw[Rx.eF];exact wO a b i
def asN a:Rx.lx (mL a)=Rx.X 1*Rx.lx a:=by rw[mL,Rx.tI,Rx.zo,Rx.kV,Rx.im]
def wP l:Z (gH l)<=Z l:=XA
def Hx(a b:E U):G->E U
 |0=>[]
 |d+1=>kZ (mL<|Hx a b d)<|fw (I a (Z a-1-d) 0) b
def asO(a:E U){b}(d:b<Z a):az (Z a-(b+1)) a=I a (Z a-1-b) 0::az (Z a-b) a:=by rw[rZ (Y:Z a-(b+1)<Z a),(Y:Z a-(b+1)+1=Z a-b),aO,cT (Y:Z a-1-b<Z a)];simp only[(Y:Z a-(b+1)=Z a-1-b)];rfl
def agL(a b:E U):∀d,d<=Z a->Rx.lx (Hx a b d)=Rx.lx (az (Z a-d) a)*Rx.lx b
 |0,_=>by rw[Hx,A4,List.drop_length,Rx.mI,Rx.dw]
 |d+1,f=>by rw[Hx,Lv,asN,BI,agL a b d Y,asO a Y,Rx.zo,Rx.gh,Rx.c9,Rx.js]
def asP a b d:Rx.bM (Hx a b d):=by
 cases d with
 |zero=>exact Rx.wC
 |succ d=>exact Rx.jF _
namespace Rx
def zL(a:G)(D:V)(A:Rx):Prop:=∀i,∃z:V,aD z<=a/\(D:U)*A i=(z:U)
def Ht(a:G)(A:Rx):Prop:=∃D:V,D≠0/\aD D<=a/\zL a D A
def Lw{D:V}(a:D≠0):(D:U)≠0:=λe=>a<|W9.1 e
def zL.le{a N}{D}{A}(b:zL a D A)(k:a<=N):zL N D A:=λi=>by let ⟨z,d,h2⟩:=b i;exact⟨z,bZ d k,h2⟩
def Ht.le{a N}{A}(b:Ht a A)(k:a<=N):Ht N A:=by let ⟨D,d,h2,f⟩:=b;exact⟨D,d,bZ h2 k,f.le k⟩
def Ht.zero{a}(b:1<=a):Ht a 0:=⟨1,o,b,λ_=>⟨0,bm _,dU _⟩⟩
def Ht.qs{b s}{A}(k:Ht b A)(p:b<4294967296^s) i:QS s (A i):=by
 let ⟨D,l,f,m⟩:=k;let ⟨z,g,d⟩:=m i;have a:∀(D z:V),0<D->aD D<=b->aD z<=b->(D:U)*A i=(z:U)->QS s (A i):=by
  intro D z n f g d;have e:kC z D=A i:=by have t:=nV _<|Lw (Y:D≠0);rw[P5,tE,<-d];grind
  rw[<-e];exact Lm n (Y:aD z<4294967296^s) (Y:aD D<4294967296^s)
 rcases Int.lt_trichotomy D 0 with e|e|e
 .exact a (-D) (-z) Y Y Y (by rw[zM,zM,<-d];grind)
 .exact aJ e l
 .exact a D z e f g d
def tJ{a b}{d N}(f:aD a<=d)(k:aD b<=N):aD (a*b)<=d*N:=by rw[pX];exact jQ f k
def Ht.sub{a N}{A B}(d:Ht a A)(k:Ht N B):Ht (2*(a*N)) (A-B):=by
 let ⟨D,f,h2,g⟩:=d;let ⟨E,l,b,m⟩:=k;refine⟨D*E,zz f l,by have:=tJ h2 b;omega,λi=>?_⟩;let ⟨z,n,p⟩:=g i;let ⟨w,s,t⟩:=m i;refine⟨z*E-D*w,?_,?_⟩
 .have u:=tJ n b;have v:=tJ h2 s;omega
 .rw[nS,fW,K0,fW,fW,<-p,<-t];grind
def Ht.bG{b n}{A}(d:Ht b A)(m:sz A<=n)(a:1<=n):Ht (n*b) (bG A):=by
 let ⟨D,f,h2,g⟩:=d;refine⟨D,f,by have:=jQ a h2;omega,λi=>?_⟩;by_cases p:n<=i+1
 .exact⟨0,bm _,by rw[si,jT Y,dU,dU];rfl⟩
 .let ⟨z,k,l⟩:=g<|i+1;refine⟨((i+1:G):V)*z,tJ Y k,?_⟩;rw[si,fW,<-l,pq];grind
def Ht.asQ{a k}{A}(f:Ht a A)(g:A k≠0):Ht a (K (A k)⁻¹ *A):=by
 let ⟨D,l,h2,b⟩:=f;let ⟨w,m,d⟩:=b k;have n:w≠0:=λe=>by
  subst e;rcases zp.1 (d.trans D2)with e|e
  .exact Lw l e
  .exact g e
 refine⟨w,n,m,λi=>?_⟩;let ⟨z,p,s⟩:=b i;refine⟨z,p,?_⟩;rw[eF,<-d,<-s];grind
def Ht.smul{a N}{A}{b}(f:Ht a A)(k:Ht N (K b)):Ht (a*N) (K b*A):=by let ⟨D,g,h2,l⟩:=f;let ⟨E,m,n,p⟩:=k;refine⟨D*E,zz g m,tJ h2 n,λi=>?_⟩;let ⟨z,s,t⟩:=l i;let ⟨w,u,d⟩:=p 0;refine⟨z*w,tJ s u,?_⟩;rw[kz,q J]at d;rw[eF,fW,fW,<-t,<-d];grind
def agM{a b:E U}{n m k N:G}(H:Z b=n+1)(P:Z a=n+m)(u:I b n 0≠0)(Q:Ht k (lx a))(T:Ht N (lx b)):∀d,d<=m->
  ∃D:V,D≠0/\aD D<=k*(2*N)^d/\zL (k*(2*N)^d) D (lx (dR (I b n 0)⁻¹ a b n m d).1)/\zL (k*(2*N)^d) D (lx (dR (I b n 0)⁻¹ a b n m d).2)
 |0,_=>by let ⟨D,W,h2,h3⟩:=Q;rw[pW,qG];refine⟨D,W,h2,λi=>⟨0,bm _,?_⟩,h3⟩;show(D:U)*I (bt m (0:U)) i 0=_;rw[Lq,dU];rfl
 |d+1,L=>by
  let ⟨D,d1,d2,d3,d4⟩:=agM H P u Q T d Y;let ⟨v,c,h,K⟩:=T;let ⟨β,A,p⟩:=K n;let ⟨_,q0,_⟩:=XC H P u d Y;let ⟨l1,l2⟩:=BF (I b n 0)⁻¹ a b n m d;have B:β≠0:=λe=>by
   subst e;rcases zp.1 (p.trans D2)with e|e
   .exact Lw c e
   .exact u e
  have l:(β:U)*(I b n 0)⁻¹ =(v:U):=by have p:(v:U)*I b n 0=(β:U):=p;rw[<-p];grind
  rw[dR,gK,<-tn];generalize dR (I b n 0)⁻¹ a b n m d=x at*;generalize k*(2*N)^d=X at*;let ⟨o,r⟩:=x;simp only at d3 d4 q0 l1 l2⊢;let ⟨t,t1,s⟩:=d4<|m-1-d+n;have s:(D:U)*I r (m-1-d+n) 0=(t:U):=s;have f:X*N<=X*(2*N):=ja X Y;have y:X*(2*N)=X*N+X*N:=by rw[Nat.two_mul,Bl]
  refine⟨D*β,zz d1 B,bZ (tJ d2 A) f,λi=>?_,λi=>?_⟩
  .rw[eG,D1 i _ Y];by_cases e:m-1-d=i
   .rw[q e];refine⟨t*v,bZ (tJ t1 h) f,?_⟩;rw[fW,fW,<-s,<-l];grind
   .rw[j e];let ⟨z,C,g⟩:=d3 i;have g:(D:U)*I o i 0=(z:U):=g;refine⟨z*β,bZ (tJ C A) f,?_⟩;rw[fW,fW,<-g];grind
  .rw[Lu _ Y,dP,eF,kU];let ⟨z,C,g⟩:=d4 i;have O:=tJ C A;by_cases e:m-1-d<=i
   .rw[q e];let ⟨w,F,J⟩:=K<|i-(m-1-d);have R:=tJ t1 F;refine⟨z*β-t*w,Y,?_⟩;rw[K0,fW,fW,fW,<-g,<-J,<-s,<-l];grind
   .rw[j e];refine⟨z*β,Y,?_⟩;rw[fW,fW,<-g];grind
def zL.take{b}{D}{a}(d:zL b D (lx a)) n:zL b D (lx<|c n a):=λi=>by
 rw[eG,Hv];split
 .exact d i
 .exact⟨0,bm _,dU _⟩
def Lx{a b}{t u}(p:bM b)(f:b≠[])(i:Ht (2^t) (lx a))(s:Ht (2^u) (lx b)):Ht (2^(t+(u+1)*(a.length+1-b.length))) (lx<|jV a b)/\Ht (2^(t+(u+1)*(a.length+1-b.length))) (lx<|fX a b)/\
  (b.length<=a.length->∀d,d<=a.length+1-b.length->Ht (2^(t+(u+1)*(a.length+1-b.length))) (lx (dR (b.getD (b.length-1) 0)⁻¹ a b (b.length-1) (a.length+1-b.length) d).2)):=by
 have v:=cR.2 f
 unfold jV fX
 by_cases h:a.length<b.length
 .rw[q h,q h];refine⟨Ht.zero<|ko o,i.le<|eU o<|Nat.le_add_right _ _,λx=>aJ h Y⟩
 .rw[j h,j h,tI,tI];have g:=agM (a:=a) (b:=b) (n:=b.length-1) (m:=a.length+1-b.length) Y Y (p.ne f) i s;have k:∀d,2^t*(2*2^u)^d=2^(t+(u+1)*d):=λd=>by rw[show 2*2^u=2^(u+1)by rw[gK,ic],<-G4,<-kv]
  let ⟨D,d1,d2,d3,d4⟩:=g _<|aN _;rw[k]at d2 d3 d4;refine⟨⟨D,d1,d2,d3⟩,⟨D,d1,d2,d4.take _⟩,λ_ d l=>?_⟩;let ⟨D,d1,d2,d3,d4⟩:=g d l;rw[k]at d2 d3 d4;exact Ht.le ⟨D,d1,d2,d4⟩<|eU o<|XH (ja _ l) _
def agN{a}{d}(f:bM a)(k:Ht d (lx a)):Ht d (lx<|eZ a):=by
 by_cases b:a=[]
 .subst b;rw[QN];exact k
 .rw[BH b];exact k.asQ (k:=Z a-1)<|f.ne b
def Ly n{k}(a:k<=n):2^k<=2^n:=eU o a
def nZ{t s}(a:t<32*s):2^t<4294967296^s:=by rw[(o:(4294967296:G)=2^32),<-G4];exact WR o a
def three{d}:1<=d->d+2<=3^d:=by
 intro h;induction d with
 |zero=>omega
 |succ d a=>
  by_cases e:d=0
  .subst e;decide
  .have:=a Y;rw[gK];omega
def QU{a b}(d:b≠[]):Z (eZ<|fX a b)<Z b\/eZ (fX a b)=[]:=by
 by_cases h:fX a b=[]
 .right;rw[h,QN]
 .left;have:=xZ (a:=a) d;unfold eZ;rw[j h];refine tm (Hu _) ?_;rw[wL,c7];exact this
def agO{s:G}:∀(k t:G)(a b:E U),bM a->bM b->Z b<k->(b=[]\/Z b<Z a)->Z a<=500->Ht (2^t) (lx a)->Ht (2^t) (lx b)->(t+1)*3^Z a<=32*s->
  BG s k a b/\(∀i,QS s (I (kY k a b) i 0))/\Z (kY k a b)<=500
 |0,_,_,_,_,_,f,_,_,_,_,_=>by omega
 |k+1,t,a,b,x,m,H,g,la,hA,n,N=>by
  have z:0<3^Z a:=ko o;have p:t<32*s:=by have:=ja (t+1) (show 1<=3^Z a from z);omega
  rw[BG,kY];split
  .rename_i e;exact⟨.inl e,λi=>hA.qs (nZ p) i,la⟩
  .rename_i e;have g:=g.resolve_left e;have K:=cR.2 e;let ⟨q1,u,A⟩:=Lx m e hA n;have B:t+(t+1)*(Z a+1-Z b)+1=(t+1)*(Z a-Z b+2):=by rw[(Y:Z a+1-Z b=Z a-Z b+1),(Y:Z a-Z b+2=Z a-Z b+1+1),Bl (t+1) (Z a-Z b+1) 1];omega
   have P:(t+1)*(Z a-Z b+2)*3^Z b<=(t+1)*3^Z a:=by have:=three (d:=Z a-Z b) Y;rw[tn];refine ja _ ?_;refine bZ (eB _ this) ?_;rw[<-kv,(Y:Z a-Z b+Z b=Z a)];exact aN _
   have v:=wM (b:=b) x;have C:0<3^Z b:=ko o;have l:t+(t+1)*(Z a+1-Z b)<32*s:=by have:=ja ((t+1)*(Z a-Z b+2)) (show 1<=3^Z b from C);omega
   let ⟨i1,i2,i3⟩:=agO (s:=s) k (t+(t+1)*(Z a+1-Z b)) b (eZ<|fX a b) m (uT _) (by rcases QU (a:=a) e with f|f;omega;rw[f,ug];omega) ((QU (a:=a) e).symm) Y
    (n.le<|eU o<|Nat.le_add_right _ _) (agN v u) (by rw[B];omega)
   refine⟨.inr ⟨⟨la,Y,m.ne e,λi=>n.qs (nZ p) i,λj D i=>(A Y j D).qs (nZ l) i,λf=>v.ne f,λi=>u.qs (nZ l) i⟩,i1⟩,i2,i3⟩
end Rx
open Rx
noncomputable def pB(a:E (Rx×G)):G->G->E (Rx×V)
 |0,_=>[]
 |k+1,n=>(if 1<sz (pF (kP n) a)then[(pF (kP n) a,(n:V))]else[])++pB a k (n+1)
def XI{a:E (Rx×G)}:∀(k:G){n:G},(∀x∈a,x.2<n)->pB a k n=[]
 |0,_,_=>rfl
 |k+1,n,d=>by
  have f:pF (kP n) a=1:=PY λx b=>j (by have:=d x b;omega)
  rw[pB,f,pn,j Y,XI k (λx b=>by have:=d x b;omega),iO]
def XJ{A:Rx}(a:2<=sz A):∀n,n+1<=sz (pk A n)
 |0=>by rw[show pk A 0=1 from J,pn];omega
 |n+1=>by
  have b:A≠0:=λe=>by rw[e,je]at a;omega
  have d:=XJ a n;have f:pk A n≠0:=λe=>by rw[e,je]at d;omega
  have:=dV f b;rw[pk];omega
def agP{c:G->G}:∀{a:E (Rx×G)}{x:Rx×G},x∈a->pk x.1 (c x.2)∣pF c a
 |d::a,x,b=>by
  rw[pF];rcases b9.1 b with rfl|b
  .exact nU _ _
  .exact eW (agP b) _
def XK{a}(b:FL a){x}(d:x∈a):x.2<sz (pF id a):=by have f:=kX (agP (c:=id) d) (xR b.mo).ne;have g:=XJ (b.gI x d).1 x.2;have i:sz (pk x.1 x.2)<=sz (pF id a):=f;omega
end Go.El
