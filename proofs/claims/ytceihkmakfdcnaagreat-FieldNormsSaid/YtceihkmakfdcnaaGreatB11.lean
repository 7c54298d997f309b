/- Contracts: rational numbers of the program. Own work; no condition. -/
import Derived.Test.YtceihkmakfdcnaaGreatB10
import Derived.Test.YtceihkmakfdcnaaGreatB7
import Derived.Test.YtceihkmakfdcnaaGreatB9
import Derived.Test.YtceihkmakfdcnaaGreatB6
import Derived.Test.YtceihkmakfdcnaaGreatB3
import Derived.Test.YtceihkmakfdcnaaGreatB4
import Derived.Test.YtceihkmakfdcnaaGreatB5
set_option linter.all false
set_option maxHeartbeats 16000000
set_option maxRecDepth 100000
open Array renaming replicate->qo
open Bool renaming true->ae,false->ah
open Go renaming Program->bI,Oper->aX,TypeId->dH
open Go.Builtin renaming copy_->aeb
open Go.Deferred renaming ofValue->xq
open Go.El renaming rr->e,cS->S,K0->F,ij->U,re->z,dj->j,cI->O,ahT->r,rb->R
open Go.Proofs.Tryz renaming prog->c
open Int renaming gcd->im,natAbs->aA,ediv_mul_cancel->apD,toNat->af
open List renaming replicate->bl,length->Z,take->M,getD->I,range->cw,map->Vp,drop->ay
open Nat renaming Coprime->Vm,blt->dt,ble->dU
open Nat.Coprime renaming mul_right->apE
open Option renaming some->ad
open Rat renaming divInt->jC,inv_def->ad5
open _root_ renaming Nat->V,Rat->N,Int->Y,List->E
namespace Go.El
open Go Go.Proofs Go.RowKit
structure QS(k:V)(r:N):Prop where
 n:aG k r.num
 d:aG k (r.den:Y)
def QS.le{a k}{b}(h:QS a b)(f:a<=k):QS k b:=⟨h.n.le f,h.d.le f⟩
def OR{a}:eV a<0↔a<0:=by unfold eV;split<;>(try split)<;>omega
def u7{a}:eV a=0↔a=0:=by unfold eV;split<;>(try split)<;>omega
def JE{b}{n d}(f:b.num=n)(g:(b.den:Y)=d):AV.a [C.B (cj n),C.S al<|er n,C.B<|cj d,C.S al<|er d]=aQ b:=by subst f g;rfl
def Vh{n d}(a:0<d):(jC n d).num=n/((im n d:V):Y)/\((jC n d).den:Y)=d/((im n d:V):Y):=by have:=M8 n d G;rwa[y G]at this
def OS{n d}(a:0<d)(h:im n d=1):(jC n d).num=n/\((jC n d).den:Y)=d:=by have:=Vh (n:=n) a;rwa[h,show(((1:V):Y))=1 from J,uI,uI]at this
def Vi n d(g:0<d)(i:Sm n)(a:Sm d):ao c 126 [aZ n,aZ d] (aQ<|jC n d):=by
 refine aL Tryz.func126 ?_;let ⟨p1,k⟩:=Vh (n:=n) g;have l:im n d≠0:=λm=>by have:=(TA.1 m).2;omega
 have b:Sm ((im n d:V):Y):=b6 (sZ<|show aA (((im n d:V):Y))<=aA d from Nat.gcd_le_right _ G) a;refine e J<|j<|bH J J (FV d) J<|F J (λh=>?_)<|λ_=>aE ?_
 .have h:d=1:=aW h;subst h;let ⟨c1,f⟩:=OS (n:=n) D<|Int.gcd_one_right ..;exact e J<|bV<|cQ<|fg J<|JE c1 f
 refine bH J J (apA n d i a) J<|j<|R<|rc J J (FV _)<|z J<|F J (λh=>?_)<|λ_=>aE ?_
 .have h:((im n d:V):Y)=1:=aW h;let ⟨c1,f⟩:=OS g<|Int.ofNat.inj h;exact e J<|bV<|cQ<|fg J<|JE c1 f
 refine bH J J (abX n _ G i b) J<|R<|rc J J (abX d _ G a b)<|z J<|e J<|bY J<|JE p1 k
def den_pos(a:N):0<(a.den:Y):=by have:=a.den_nz;omega
def ad3 a(b:Sm a.num):ao c 71 [aQ a] (aQ<| -a):=by refine aL Tryz.func71 ?_;refine e J<|bH J J (TF a.num b) J<|bY J<|JE J J
def Vj a:ao c 137 [aQ a] (O<|eV a.num):=by refine aL Tryz.func137 ?_;exact e J<|bH J J (abo a.num) J<|c7 J
def apC n:ao c 123 [aZ n] (aQ (n:N)):=by refine aL Tryz.func123 ?_;exact e J<|bH J J (TD 1 D D) J<|bY J J
def JF n(a: -9223372036854775808<=n)(b:n<=9223372036854775807):ao c 70 [O n] (aQ (n:N)):=by refine aL Tryz.func70 ?_;exact e J<|R<|rc J J (TD n a b)<|rc J J (apC n)<|z J<|c7 J
def ad4 a(f:a.num≠0)(g:Sm a.num)(i:Sm (a.den:Y)):ao c 115 [aQ a] (.t [(ae,av .q a⁻¹),(ah,[.I .i64 0])]):=by
 refine aL Tryz.func115 ?_;have b:im (a.den:Y) a.num=1:=by have:=a.reduced;rw[Int.gcd_comm];exact this
 refine e J<|j<|bH J J (abo a.num) J<|az<|e J<|F J (λh=>?_)<|λh=>?_
 .exfalso;have h:eV a.num=0:=eq_of_beq h;exact f<|u7.1 h
 refine e J<|F J (λh=>?_)<|λh=>?_
 .have h:eV a.num= -1:=eq_of_beq h;have h:a.num<0:=OR.1 G;have d:(a⁻¹).num= -(a.den:Y)/\(((a⁻¹).den:V):Y)= -a.num:=by
   rw[ad5];have:=M8 (a.den:Y) a.num f;rw[q h,b]at this;rw[this.1,this.2];constructor
   .rw[show-(((1:V):Y))= -1 from J,B8,uI]
   .rw[show-(((1:V):Y))= -1 from J,B8,uI]
  refine R<|rc J J (TF (a.den:Y) i)<|rc J J (TF a.num g)<|z J<|bV ?_;repeat(first|refine cQ ?_|refine lQ ?_|refine mq ?_)
  refine fg J ?_;show AV.t [(ae,[C.B (cj<| -(a.den:Y)),C.S al<|er<| -(a.den:Y),C.B<|cj<| -a.num,C.S al<|er<| -a.num]),(ah,[C.I .i64 0])]=_;rw[<-d.1,<-d.2];rfl
 .have h:¬eV a.num= -1:=nY h;have h:0<a.num:=by
   unfold eV at h;split at h
   .omega
   .omega
  have d:(a⁻¹).num=(a.den:Y)/\(((a⁻¹).den:V):Y)=a.num:=by rw[ad5];exact OS h b
  refine dc<|bL ?_;refine e J<|bY J ?_;show AV.t [(ae,[C.B (cj (a.den:Y)),C.S al<|er (a.den:Y),C.B<|cj a.num,C.S al<|er a.num]),(ah,[C.I .i64 0])]=_;rw[<-d.1,<-d.2];rfl
def ad6{k}a b(f:QS k a)(g:QS k b)(w:k<=500000000000):ao c 77 [aQ a,aQ b] (aQ<|a+b):=by
 refine aL Tryz.func77 ?_;have o:=f.n.mul g.d;have p:=g.n.mul f.d;have s:=f.d.mul g.d;have t:=o.add p;have l:=f.n.sm G;have h:=f.d.sm G;have m:=g.n.sm G;have i:=g.d.sm G;have u:=Ca (den_pos a)<|den_pos b;have v:jC (a.num*(b.den:Y)+b.num*(a.den:Y)) ((a.den:Y)*(b.den:Y))=a+b:=by have x:=den_pos a;have B:=den_pos b;rw[<-Vk _ _ G G,n8,n8]
 rw[<-v];refine e J<|R<|rl .z [a.num,(b.den:Y)] J J (rc J J (JD _ _ l i)<|rl .z [b.num,(a.den:Y)] J J (rc J J (JD _ _ m h)<|rc J J (anC _ _ (o.sm G)<|p.sm G)<|z J ?_));exact R<|rl .z [(a.den:Y),(b.den:Y)] J J (rc J J (JD _ _ h i)<|rc J J (Vi _ _ u (t.sm G)<|s.sm G)<|z J<|c7 J)
def ad7{a b f d}(h:im a b=1)(i:f∣a)(k:d∣b):im f d=1:=by have g:((im f d:V):Y)∣((im a b:V):Y):=Int.dvd_coe_gcd (Jo (Int.gcd_dvd_left ..) i)<|Jo (Tz ..) k;rw[h]at g;have:=Int.ofNat_dvd.1 g;exact Nat.dvd_one.1 this
def Vl{n d}(a:0<d):(jC n d).num∣n/\(((jC n d).den:V):Y)∣d:=by let ⟨b,h2⟩:=Vh (n:=n) a;rw[b,h2];exact⟨⟨_,(apD<|Int.gcd_dvd_left ..).symm⟩,⟨_,(apD<|Tz ..).symm⟩⟩
def aG.dvd{n}{a b}(h:aG n a)(d:b∣a)(f:a≠0):aG n b:=by have:=wi G<|IQ.2 d;unfold aG at*;omega
def JG{k}{n d}(a:0<d)(b:aG k n)(f:aG k d):QS k (jC n d):=by
 let ⟨g,h2⟩:=Vl (n:=n) a;refine⟨?_,f.dvd h2 G⟩;by_cases e:n=0
 .subst e;rw[Rat.zero_divInt];exact aG.zero _
 .exact b.dvd g e
def QS.add{k}{a b}(f:QS k a)(g:QS k b):QS (2*k+1) (a+b):=by
 have h:=den_pos a;have i:=den_pos b;have e:jC (a.num*(b.den:Y)+b.num*(a.den:Y)) ((a.den:Y)*(b.den:Y))=a+b:=by rw[<-Vk _ _ G G,n8,n8]
 rw[<-e];exact JG (Ca h i) (((f.n.mul g.d).add<|g.n.mul f.d).le G)<|(f.d.mul g.d).le G
def QS.mul{k}{a b}(f:QS k a)(g:QS k b):QS (2*k) (a*b):=by
 have h:=den_pos a;have i:=den_pos b;have e:jC (a.num*b.num) ((a.den:Y)*(b.den:Y))=a*b:=by rw[<-FW,n8,n8]
 rw[<-e];exact JG (Ca h i) ((f.n.mul g.n).le G)<|(f.d.mul g.d).le G
def QS.neg{k}{a}(b:QS k a):QS k (-a):=⟨b.n.neg,b.d⟩
def OT{k}a b(g:QS k a)(h:QS k b)(hk:k<=500000000000):ao c 72 [aQ a,aQ b] (aQ<|a*b):=by
 refine aL Tryz.func72 ?_;have m:=g.n.sm G;have o:=g.d.sm G;have p:=h.n.sm G;have s:=h.d.sm G;have w:=JG (n:=a.num) (den_pos b) g.n h.d;have x:=JG (n:=b.num) (den_pos a) h.n g.d;let ⟨l1,l2⟩:=Vl (n:=a.num)<|den_pos b;let ⟨r1,B⟩:=Vl (n:=b.num)<|den_pos a;have t:=Vi a.num (b.den:Y) (den_pos b) m s;have u:=Vi b.num (a.den:Y) (den_pos a) p o;have C:jC a.num (b.den:Y)*jC b.num (a.den:Y)=a*b:=by rw[FW,eW (b.den:Y),<-FW,n8,n8]
 have H:im a.num (a.den:Y)=1:=a.reduced;have K:im b.num (b.den:Y)=1:=b.reduced;generalize jC a.num (b.den:Y)=L at*;generalize jC b.num (a.den:Y)=f at*;have v:im (L.num*f.num) ((L.den:Y)*(f.den:Y))=1:=by have i:im L.num (L.den:Y)=1:=L.reduced;have l:im f.num (f.den:Y)=1:=f.reduced;have P:=ad7 H l1 B;have Q:=ad7 K r1 l2;have T:Vm (aA L.num) L.den:=i;have W:Vm (aA f.num) f.den:=l;have X:Vm (aA L.num) f.den:=P;have j:Vm (aA f.num) L.den:=Q;show Nat.gcd (aA<|L.num*f.num) (aA<|(L.den:Y)*(f.den:Y))=1;rw[rP,rP];exact Nat.Coprime.mul_left (apE T X)<|apE j W
 let ⟨i,l⟩:=OS (Ca (den_pos L)<|den_pos f) v;rw[<-FW,n8,n8,C]at i l;refine e J<|bH J J t J<|R<|rc J J u<|z J ?_;refine R<|rl .z [L.num,f.num] J J (rc J J (JD _ _ (w.n.sm G)<|x.n.sm G)<|rl .z [(L.den:Y),(f.den:Y)] J J (rc J J (JD _ _ (w.d.sm G)<|x.d.sm G)<|z J<|bY J<|JE i l))
def oa(a b:N):Y:=if a<b then-1 else if b<a then 1 else 0
abbrev ZZ:ET:= .pr .z .z
def qz(a:N):Y×Y:=(a.num,(a.den:Y))
def OU k(l:E N):kK (.vec k ZZ<|l.map qz) (.vec k .q l):=by
 refine⟨λv g W w h=>?_,λ_ h=>fR⟩;rcases h with⟨a,d⟩|⟨b,f,vs,a,d,o,m,n,p,s,t⟩
 .exact .inl ⟨a,List.map_eq_nil_iff.1 d⟩
 .rw[cT]at a m n;refine .inr ⟨b,f,vs,a,d,o,m,n,λi u=>?_,s,t⟩;have:=p i (by rw[cT];exact u);rw[Bd]at this;exact this
def ad8(f:E N):bg (.c<|.S .q f) (.c<|.S ZZ<|f.map qz):=by
 refine⟨λg v h=>?_,λ_ h=>by simpa[AV.ak,C.ak]using h⟩;obtain⟨a,k,m,n,o,d⟩:lK (c6 g.H .q) 4 g.H f v:=h;refine⟨a,k,by rw[cT];exact m,by rw[cT];exact n,by rw[cT];exact o,?_⟩;rcases d with d|⟨b,off,e,d⟩
 .exact .inl (by rw[d];rfl)
 .refine .inr ⟨b,off,e,λi l=>?_⟩;rw[cT]at l;let ⟨cs,c1,p,s⟩:=d i l;exact⟨cs,c1,by rw[Bd];exact p,s⟩
def apF{d:Type}(a b:d){i n}(h:i<n):(bl i a++bl (n-i) b).set i a=bl (i+1) a++bl (n-(i+1)) b:=by rw[Nt _ _ ax,fY,kg,(G:n-i=(n-(i+1))+1),yS,TN,List.replicate_succ',lP];rfl
def OV(n:V)(b:n<=1000):oz c 118 [O n] 44 .q (bl n 0):=by
 refine Ic Tryz.func118 J J J J D ?_;refine e J<|R<|rm ZZ n J J J J J J SZ J ?_ ?_<|z J<|j<|e J ?_
 .show n*64<=_;omega
 .show n*4<=_;omega
 refine az<|bq (α:=V) (λi=>⟨[(3,.c<|.X 1001000),(7,O n),(8,O i)],[(1001000,.vec 44 ZZ<|bl i (0,1)++bl (n-i) (0,0))],3,[]⟩) (λi=>i<=n) (λi=>n-i) 0 (bf _) (wk (bM J) ⟨bE J J,A⟩) ?_;intro i d;refine e J<|j<|F J (λh=>?_)<|λh=>?_
 .have h:i<n:=by have h:(i:Y)<(n:Y):=aW h;omega
  have a:Z (bl i ((0,1):Y×Y)++bl (n-i) (0,0))=n:=bX;refine dc<|aK<|j<|az<|e J<|cK<|rc J J (JF 0 D D)<|ux ((0,1):Y×Y) J J J J J ?_ (z J<|bL<|rt J (hp:=aF)<|a4 (i+1) h OW<|wk (bM J) ⟨bE J ?_,A⟩) (hp:=?_)
  .show af ((i:Y))<_;rw[a];omega
  .refine bh (aD.vec 44 ZZ) ?_;show(bl i ((0,1):Y×Y)++bl (n-i) (0,0)).set (af<|(i:Y)) (0,1)=_;rw[cr,apF _ _ h]
  .show 0<=(i:Y)/\(i:Y)<(Z (bl i ((0,1):Y×Y)++bl (n-i) (0,0)):Y);rw[a];omega
 .have h:i=n:=by have h:¬(i:Y)<(n:Y):=bc h;omega
  subst h;refine bt<|aK ?_;refine eR (st':=⟨[(3,.c<|.X 1001000)],[(1001000,.vec 44 .q<|bl i 0)],4,[]⟩) (wk ⟨sR J,A⟩ ⟨⟨_,J,?_⟩,A⟩)<|e J<|bV<|Ib (id:=1001000) cv J J;have:=OU 44<|bl i 0;rw[List.map_replicate]at this;rw[kg,DV,ik];exact this
def JH(xs:E N)(g:Z xs<=1000000):ao c 120 [S .q xs] (S .q<|fI xs):=by
 refine aL Tryz.func120 ?_;refine e J<|e J ?_;refine dj<|az<|bq (α:=V) (λk=>⟨[(0,S .q xs),(3,O k)],[],2,[]⟩) (λk=>k<=Z xs/\jU xs k=jU xs (Z xs)) (λk=>k) (Z xs) ⟨aT _,J⟩ aV ?_;rintro k ⟨i,a⟩;have b:jU xs k=k->bg (S .q<|M k xs) (S .q<|fI xs):=λd=>by refine bg.of_eq ?_;unfold fI;rw[<-a,d]
 refine dj<|R ?_;refine rg 8 J J (λh=>?_)<|λh=>?_
 .have h:0<k:=by have h:(k:Y)>0:=aW h;omega
  obtain⟨j,rfl⟩:∃j,k=j+1:=⟨k-1,G⟩;have f:af (((j+1:V):Y)-1)=j:=G;refine gO J J J J J (Vj<|I xs (af<|((j+1:V):Y)-1) 0) (z J ?_) (hp:=kp);refine F J (λh2=>?_)<|λh2=>?_
  .have h2:(I xs j 0).num=0:=by have h2:eV (I xs (af<|((j+1:V):Y)-1) 0).num=0:=eq_of_beq h2;rw[f]at h2;exact u7.1 h2
   refine aE<|az<|rt J (fB<|a4 j ⟨G,?_⟩ sY<|wk ⟨sR J,sE J ?_,A⟩ A) (hp:=kp)
   .rw[<-a,jU,q h2]
   .exact jb (G:((j+1:V):Y)-1=(j:Y))
  .have h2:(I xs j 0).num≠0:=by have h2:eV (I xs (af<|((j+1:V):Y)-1) 0).num≠0:=nY h2;rw[f]at h2;exact λd=>h2 (u7.2 d)
   exact bt<|aK<|e J (bV<|iJ cv J<|b<|by rw[jU,y h2]) (hp:=aF)
 .have h:k=0:=by have h:¬(k:Y)>0:=bc h;omega
  subst h;exact z J<|F J (λh2=>qJ)<|λ_=>bt<|aK<|e J (bV<|iJ cv J<|b J) (hp:=aF)
def ob(a:E N)(d:N)(b:E N)(k m:V):E N:=(cw<|Z a).map λi=>if k<=i/\i<k+m then I a i 0+d*I b (i-k) 0 else I a i 0
def jD(a:E N)(d:N)(b:E N)(k:V):E N:=ob a d b k<|Z b
def ns(a d b k m):Z (ob a d b k m)=Z a:=by simp[ob]
def vb{a}{d}{b}{k m i}(f:i<Z a):I (ob a d b k m) i 0=if k<=i/\i<k+m then I a i 0+d*I b (i-k) 0 else I a i 0:=by unfold ob;rw[aN,iN,jV f];rfl
def JI{a b:E N}(f:Z a=Z b)(h:∀i,i<Z a->I a i 0=I b i 0):a=b:=by
 refine tQ f λi d g=>?_
 have:=h i d;rwa[aN,cO d,aN,cO g]at this
def apG(a f b k):ob a f b k 0=a:=JI (ns ..) λi d=>by rw[ns]at d;rw[vb d,y G]
def apH(a b k):jD a 0 b k=a:=JI (ns ..) λi d=>by
 unfold jD at*;rw[ns]at d;rw[vb d];split
 .rw[mO,nl]
 .rfl
def CO{l}{i}a(x:N)(h:i<Z l):(l.set i x).getD a 0=if i=a then x else I l a 0:=by
 rw[aN,Tq];by_cases e:i=a
 .subst e;rw[q J,q J,q h];rfl
 .rw[y e,y e,aN]
def apI{a}{d}{b}{k m}(h:k+m<Z a):(ob a d b k m).set (k+m) (I a (k+m) 0+d*I b m 0)=ob a d b k (m+1):=JI (by rw[nG,ns,ns]) λi f=>by
 rw[nG,ns]at f;rw[CO _ _ (by rw[ns];exact h),vb f,vb f];by_cases e:k+m=i
 .subst e;rw[q J,q G,IK]
 .rw[y e];by_cases g:k<=i/\i<k+m
  .rw[q g,q G]
  .rw[y g,y G]
def apJ{d}{f}{b}{k m}(h:I b m 0=0):ob d f b k m=ob d f b k (m+1):=JI (by rw[ns,ns]) λi a=>by
 rw[ns]at a;rw[vb a,vb a];by_cases e:i=k+m
 .subst e;rw[y G,q G,IK,h,dY,nl]
 .by_cases g:k<=i/\i<k+m
  .rw[q g,q G]
  .rw[y g,y G]
def yh{a:N}(h:a.num=0):a=0:=Rat.num_eq_zero.1 h
def OX{s}(H:s<=200000000000) d a b k(L:k+Z b<=Z d)(w:Z d<=1000)(x:∀i,QS s (I d i 0))(p:QS s a)(B:∀i,QS s (I b i 0)):
  uy c 119 [.c (.X 0),aQ a,S .q b,O k] 44 .q d (.t []) (jD d a b k):=by
 refine Ie Tryz.func119 J J J J J D ?_
 refine e J<|j<|bH J J (Vj a) J<|F J (λh=>?_)<|λh=>aE ?_
 .have h:eV a.num=0:=eq_of_beq h;have h:a=0:=yh<|u7.1 h;subst h;rw[apH];exact bV<|cQ<|zo cv J (bg.refl _) J
 refine e J ?_
 refine az<|bq (α:=V) (λm=>⟨[(0,.c<|.X 0),(3,O k),(5,.c<|.P 1000000 0),(13,S .q b),(14,O<|Z b),(15,O m)],[(0,.vec 44 .q<|ob d a b k m),(1000000,.box 44 0<|av .q a)],4,[]⟩) (λm=>m<=Z b) (λm=>Z b-m) 0 (bf _) (wk (bM J) ⟨bE J ?_,bE J J,A⟩) ?_
 .rw[apG]
 intro m C
 refine e J<|j<|F J (λh=>?_)<|λh=>?_
 .have h:m<Z b:=by have h:(m:Y)<(Z b:Y):=aW h;omega
  have u:af ((m:Y))=m:=cr m;have l:af ((m:Y)+(k:Y))=k+m:=G;have n:=ns d a b k m;have v:I (ob d a b k m) (af<|(m:Y)+(k:Y)) 0=I d (k+m) 0:=by rw[l,vb G,y G]
  have g:QS s (I b (af<|(m:Y)) 0):=B _;have o:QS (2*s) (I (ob d a b k m) (af<|(m:Y)+(k:Y)) 0):=by rw[v];exact(x _).le G
  refine aE<|j<|az<|e J<|bH J J (Vj<|I b (af<|(m:Y)) 0) J<|F J (λf=>?_)<|λf=>dc ?_
  .refine cK (rc J J (OT a (I b (af<|(m:Y)) 0) p g G) (rc J J (ad6 _ _ o (p.mul g) G)<|ux (I (ob d a b k m) (af<|(m:Y)+(k:Y)) 0+a*I b (af<|(m:Y)) 0) J J J J J ?_ (z J ?_) (hp:=?_)) (hp:=?_))
   .show af ((m:Y)+(k:Y))<Z (ob d a b k m);rw[l,n];omega
   .refine bL<|rt J (hp:=aF)<|a4 (m+1) h (G:Z b-(m+1)<Z b-m)<|wk (bM J) ⟨bE J ?_,bE J J,A⟩;show aD.vec 44 .q ((ob d a b k m).set (af<|(m:Y)+(k:Y))<|I (ob d a b k m) (af<|(m:Y)+(k:Y)) 0+a*I b (af<|(m:Y)) 0)=_;rw[v,l,u,apI G]
   .simp only[Pr.an,Pr.h,num,fX,true_and,and_true];omega
   .simp only[Pr.an,Pr.h,num,fX,true_and,and_true];omega
  .have f:eV (I b (af<|(m:Y)) 0).num=0:=xS f;rw[u]at f;have f:=yh<|u7.1 f;refine bL<|rt J (hp:=aF)<|a4 (m+1) h (G:Z b-(m+1)<Z b-m)<|wk (bM J) ⟨bE J ?_,bE J J,A⟩;rw[apJ f]
 .have h:m=Z b:=by have h:¬(m:Y)<(Z b:Y):=bc h;omega
  subst h;exact bt<|aaJ cv J (bg.refl _) J
def QS.zero{s}(h:1<=s):QS s 0:=⟨aG.zero _,(aG.one (a:=1) D).le h⟩
def QS.int{s}(h:1<=s){n}(b:aA n<4294967296):QS s (n:N):=⟨(aG.one b).le h,(aG.one (a:=1) D).le h⟩
def vd(b:N)(a:E N):E N:=a.map (b*·)
def ad9 b a i:I (vd b a) i 0=b*I a i 0:=by
 unfold vd;rw[aN,iN,aN];cases a[i]? with
 |none=>show(0:N)=b*0;rw[dY]
 |some x=>rfl
def JJ n i:I (bl n (0:N)) i 0=0:=by rw[aN,lY];split<;>rfl
def apK b a:jD (bl (Z a) 0) b a 0=vd b a:=JI (by rw[jD,ns,fY,vd,cT]) λi d=>by rw[jD,ns,fY]at d;rw[jD,vb (by rw[fY];exact d),q G,JJ,FF,BW,ad9]
def apL{s}(g:1<=s)(h:s<=200000000000) b a(f:Z a<=1000)(k:QS s b)(l:∀i,QS s (I a i 0)):ao c 75 [aQ b,S .q a] (S .q<|fI<|vd b a):=by refine aL Tryz.func75 ?_;have m:=OV (Z a) f;have d:=OX h (bl (Z a) 0) b a 0 TX (by rw[fY];exact f) (λi=>by rw[JJ];exact QS.zero g) k l;rw[apK]at d;have n:=JH (vd b a) (by unfold vd;rw[cT];omega);refine e J<|R<|BT J J m<|z J<|R<|zq 1002000 J d J J<|z J ?_;exact da 1002000 J J J<|bH J J n J<|c7 J
def QS.inv{s}{a}(h:QS s a)(g:a≠0):QS s a⁻¹ :=by
 have i:a.num≠0:=λe=>g<|yh e
 rw[ad5];have f:=M8 (a.den:Y) a.num i;have k:im (a.den:Y) a.num=1:=by rw[Int.gcd_comm];exact a.reduced
 rw[k]at f;by_cases b:a.num<0
 .rw[q b,show-(((1:V):Y))= -1 from J,B8,uI,B8,uI]at f;exact⟨by rw[f.1];exact h.d.neg,by rw[f.2];exact h.n.neg⟩
 .rw[y b,show(((1:V):Y))=1 from J,uI,uI]at f;exact⟨by rw[f.1];exact h.d,by rw[f.2];exact h.n⟩
def tk(a:E N):E N:=(cw<|Z a-1).map λi=>(((i+1:V):Y):N)*I a (i+1) 0
def Vn(a):Z (tk a)=Z a-1:=by simp[tk]
def ad'{a}{i}(h:i<Z a-1):I (tk a) i 0=(((i+1:V):Y):N)*I a (i+1) 0:=by unfold tk;rw[aN,iN,jV h];rfl
def Ah(a:E N)(b:V):E N:=a++bl (b-Z a) 0
def OY{a}{b}(h:Z a<=b):Z (Ah a b)=b:=by simp[Ah];omega
def aea a b i:I (Ah a b) i 0=I a i 0:=by
 unfold Ah;rw[aN,aN];by_cases h:i<Z a
 .rw[DA h]
 .rw[DB G,jS (l:=a) G,lY];split<;>rfl
def yi(a:E N)(d:N)(b:E N):E N:=jD (Ah a<|max (Z a)<|Z b) d b 0
def apM{s}(w:1<=s)(l:s<=200000000000) a d b(x:Z a<=1000)(B:Z b<=1000)(m:0<max (Z a) (Z b))(n:∀i,QS s (I a i 0))(o:QS s d)(p:∀i,QS s (I b i 0)):ao c 128 [S .q a,aQ d,S .q b,O 0] (S .q<|fI<|yi a d b):=by
 refine aL Tryz.func128 ?_;generalize hM:max (Z a) (Z b)=M at*;have f:M<=1000:=G;have t:=OV M f;have g:=OX l (Ah a M) d b 0 (by rw[OY G];omega) (by rw[OY G];exact f) (λi=>by rw[aea];exact n i) o p;have u:=JH (yi a d b) (by rw[yi,jD,ns,hM,OY G];omega);have h:yi a d b=jD (Ah a M) d b 0:=by rw[yi,hM]
 rw[<-h]at g;have v:(if(Z b:Y)+0>(Z a:Y)then(Z b:Y)+0 else(Z a:Y))=(M:Y):=by split<;>omega
 have k:oz c 118 [O (if(Z b:Y)+0>(Z a:Y)then(Z b:Y)+0 else(Z a:Y))] 44 .q (bl M 0):=by rw[v];exact t
 refine e J<|R<|BT J J k<|z J ?_;refine R<|MQ J J J J J TX (λh=>by have:=bh Z h;rw[fY]at this;simp at this;omega)<|z J ?_;rw[Vo];change TR _ _ _ ⟨_,(_,.vec 44 .q<|Ah a M)::_,_,_⟩ _;refine R<|zq 1007000 J g J J<|z J ?_;exact da 1007000 J J J<|bH J J u J<|c7 J
def apN{s}(g:1<=s)(k:s<=200000000000) a b(l:Z a<=1000)(m:Z b<=1000)(f:0<max (Z a) (Z b))(n:∀i,QS s (I a i 0))(o:∀i,QS s (I b i 0)):ao c 74 [S .q a,S .q b] (S .q<|fI<|yi a (-1) b):=by refine aL Tryz.func74 ?_;have h:=JF (-1) D D;have d:=apM g k a (((-1:Y)):N) b l m f n (QS.int g D) o;rw[show(((-1:Y)):N)= -1 from J]at d h;exact e J<|R<|rc J J h<|rc J J d<|z J<|c7 J
section
variable{P:bI}{tt:E (V×TI)}
def apO(b7:cq P tt=ae){n Q}{ops}{i}{o:aX}(ho:ops[i]? =ad o)(hg:o.guard=none){d:V}(hd:o.dst=ad d)(df:d<n){x p}{t1 t2}(bO:o.op= .call ⟨.builtin .copy,#[x,p],#[t1,t2]⟩)
 {f}{t}{aU E1:dH} {T}{ei:TI} (hx:f.ev x=ad (.c<|.X t)) (hl:U t f.mem=ad (.vec aU T [])) (hy:f.ev p=ad (.c<|.S T [])) (H:y5 tt t1 t2=ad (E1,ei)) (pT:ei.size=T.n):
  lr P n ops i f (f.put d<|.c<|.I .i64 0) Q (bJ [x,p]++cY [t],[.s d]):=by
 refine⟨(cH f x++cH f p)++fM f [t],[(.s d,ad<|.v<|.c<|.I .i64 0)],?_,?_,pV f d _,?_,λk hk=>jG⟩
 .refine sB ho hg hd df _ _ Q ?_;intro F r σ g W a l C;have H:=Lz b7 H;rw[pT]at H;have A:a.eval x=g.γ t:=dq l f x _ hx<|λK cc=>C K dT;have D:=dq l f p _ hy<|λK cc=>C K dT;have G:σ (.m t)=ad (.b<|.vec aU T ([]:E T.den)):=C (.m t,.b<|.vec aU T []) pU;let ⟨e2,iZ⟩:=H.u2;let ⟨inf,z,w,B,O,xj,tT⟩:=H.info;let ⟨us,u,M,ry,xn⟩:=Bj (P:=P) (st:=f) (sz:=T.n) (y:= .c<|.S T []) (m:=0) (cs:=[]) (ids:=[]) l (by simp[ua]) D (λt a6=>wY) iZ J;have N:us=[]:=M;subst N;refine⟨λj hj=>(by cases hj),(.int .i64 0:Value),?_,J⟩;have q:(aeb #[t1,t2] o.type #[a.eval x,a.eval p]).run P W= .ok (.int .i64 0) W:=by
   rw[A];have R:=u.cells;rcases l.cA t _ G with⟨L,_⟩|⟨b,cap,vs,L,hh,yU,Y,Z,hr,hN,hz⟩
   .rw[L];simp[aeb,run_underlying H.u1,sizeOf,typeInfo,w,u.len,B,R,goInt,Sem.run,pure]
   .rw[L];simp[aeb,run_underlying H.u1,sizeOf,typeInfo,w,u.len,B,R,goInt,Sem.run,pure,storeCells]
  refine DY bO<|λcs=>?_;have e:(#[x,p]:Array Operand).map a.eval= #[a.eval x,a.eval p]:=ax;rw[e];simp only[Go.builtin,Sem.run_bind,q,Result.andThen];rfl
 .intro K cc;rcases be.1 cc with h|h
  .rcases be.1 h with h|h
   .exact dX _ x K h
   .exact dX _ p K h
  .exact lp _ [t] K h
 .intro k hk;simp only[dw,fF,be]at hk;rcases hk with(h|h)|h
  .exact eH _<|eI f [x,p] k tL
  .exact eH _<|eI f [x,p] k vE
  .exact gI _<|kf f [t] k h
end
section
variable{n:V}{sl sl':E (V×AV)}{mem cu:E (V×aD)}{nx:V}{gd gd':E (V×Bool)}{ops:Array aX}{draw:Bool}{p:Pr}{ks dN:E Ks}{i i' n0 cJ:V}{os eB:E aX}{d:V}{ty:dH}{pos:String}{jA:Array Edge}{R:St->Prop}
def apP{x a}{k l}{b}{o u:dH}{T}{m}(h:runs dP n nx draw ops.toList os i ⟨sl,mem,n0,gd⟩ .t ks=(⟨ad d,.call ⟨.builtin .copy,#[x,a],#[k,l]⟩,ty,pos,jA,none⟩::eB,i',⟨sl',cu,cJ,gd'⟩,p,dN))
  (v:St.ev ⟨sl',cu,cJ,gd'⟩ x=ad (.c<|.X b)) (w:U b cu=ad (.vec o T [])) (B:St.ev ⟨sl',cu,cJ,gd'⟩ a=ad (.c<|.S T [])) (H:y5 dP k l=ad (u,m))
  (L:RG c n ops draw nx (i'+1) eB ⟨(d,.c<|.I .i64 0)::sl',cu,cJ,gd'⟩ (g8 draw dN (bJ [x,a]++cY [b],[.s d])) R) (f:m.size=T.n:=by rfl)
  (P:p:=by exact ly) (g:dt d n=ae:=by rfl):RG c n ops draw nx i os ⟨sl,mem,n0,gd⟩ ks R:=
 kh cv h P (nJ (λC=>apO cv C J J (cP g) J v w B H f)<|nK L)
end
def dA(inv:N)(a b:E N)(n m:V):V->E N×E N
 |0=>(bl m 0,a)
 |d+1=>((dA inv a b n m d).1.set (m-1-d)<|(dA inv a b n m d).2.getD (m-1-d+n) 0*inv,jD (dA inv a b n m d).2 (-((dA inv a b n m d).2.getD (m-1-d+n) 0*inv)) b<|m-1-d)
def Ai(inv a b n m):∀d,(dA inv a b n m d).1.length=m/\(dA inv a b n m d).2.length=Z a
 |0=>⟨fY,J⟩
 |d+1=>by let ⟨f,h2⟩:=Ai inv a b n m d;exact⟨by rw[dA,nG,f],by rw[dA,jD,ns,h2]⟩
def apQ{s}(h1:1<=s)(hs:s<=100000000000) a b n m(hn:Z b=n+1)(hm:Z a=n+m)(HP:0<m)(la:Z a<=1000)(p:I b n 0≠0)(H:∀i,QS s (I b i 0))(hS:∀f,f<=m->∀i,QS s ((dA (I b n 0)⁻¹ a b n m f).2.getD i 0)):
  ao c 65 [S .q a,S .q b] (.t [(ah,[.S .q (fI (dA (I b n 0)⁻¹ a b n m m).1)]),(ah,[.S .q (fI<|(dA (I b n 0)⁻¹ a b n m m).2.take n)]),(ah,[.I .i64 0])]):=by
 refine aL Tryz.func65 ?_
 refine e J<|j<|e J<|F J (λh=>?_)<|λh=>aE ?_
 .have h:(Z b:Y)=0:=eq_of_beq h;exact absurd h G
 refine R<|rm ZZ (Z a) J J J J J J SZ J ?_ ?_<|z J ?_
 .show Z a*64<=_;omega
 .show Z a*4<=_;omega
 refine eR (st':=⟨[(0,.c<|.S ZZ<|a.map qz),(1,S .q b),(7,.c<|.X 2002000)],[(2002000,.vec 44 ZZ<|bl (Z a) (0,0))],3,[]⟩) (wk ⟨⟨_,J,ad8 a⟩,sR J,sR J,A⟩ ⟨bR J,A⟩) ?_
 refine R<|MQ J J J J J (by rw[fY,cT];omega) (λu=>by have:=bh Z u;rw[fY,sH]at this;omega)<|z J ?_
 have E:Vp qz a++ay (Z<|Vp qz a) (bl (Z a) ((0,0):Y×Y))=a.map qz:=by rw[cT,Vo,kg,DV,ik]
 refine eR (st':=⟨[(0,.c<|.S ZZ<|a.map qz),(1,S .q b),(7,.c<|.X 2002000)],[(2002000,.vec 44 .q a)],4,[]⟩) (wk (bM J) ⟨⟨_,J,by rw[E];exact OU 44 a⟩,A⟩) ?_
 refine e J<|j<|e J<|F J (λh=>?_)<|λh=>aE ?_
 .have h:(Z (a.map qz):Y)<=(Z b:Y)-1:=aW h;rw[cT]at h;exact absurd h G
 have N:af ((Z b:Y)-1)=n:=G
 have U:ao c 115 [aQ (I b (af<|(Z b:Y)-1) 0)] (.t [(ae,av .q (I b n 0)⁻¹),(ah,[.I .i64 0])]):=by rw[N];exact ad4 _ (λu=>p<|yh u) ((H _).n.sm G)<|(H _).d.sm G
 have v:QS s (I b n 0)⁻¹ :=(H n).inv p
 generalize (I b n 0)⁻¹ =inv at*
 have ez:(Z (a.map qz):Y)-((Z b:Y)-1)=(m:Y):=by rw[cT];omega
 have hz:oz c 118 [O ((Z (a.map qz):Y)-((Z b:Y)-1))] 44 .q (bl m 0):=by rw[ez];exact OV m G
 refine R<|rc J J U (z J<|R<|BT J J hz<|z J ?_) (hp:=aF)
 refine j<|e J ?_
 rw[fY]
 have w:=Ai inv a b n m
 refine az<|bq (α:=V) (λf=>⟨[(1,S .q b),(7,.c<|.X 2002000),(8,O n),(9,.c<|.P 6008000 0),(11,.c<|.X 7004000),(12,O<|(m:Y)-1-f)],[(7004000,.vec 44 .q (dA inv a b n m f).1),(6008000,.box 44 0<|av .q inv),(2002000,.vec 44 .q (dA inv a b n m f).2)],9,[]⟩) (λf=>f<=m) (λf=>m-f) 0 (bf _) (wk ⟨sR J,sR J,sE J ?_,sR J,sR J,sE J ?_,A⟩ ⟨bR J,bE J J,bR J,A⟩) ?_
 .exact jb (G:(Z b:Y)-1=(n:Y))
 .exact jb (G:(m:Y)-1=(m:Y)-1-((0:V):Y))
 intro f hj
 let ⟨hq,hr⟩:=w f
 have k:=hS f hj
 have o:dA inv a b n m (f+1)=((dA inv a b n m f).1.set (m-1-f)<|(dA inv a b n m f).2.getD (m-1-f+n) 0*inv,jD (dA inv a b n m f).2 (-((dA inv a b n m f).2.getD (m-1-f+n) 0*inv)) b<|m-1-f):=rfl
 refine j<|e J<|F J (λl=>?_)<|λl=>?_
 .have l:f<m:=by have l:(m:Y)-1-f>=0:=aW l;omega
  generalize dA inv a b n m f=apR at*;let ⟨K,r⟩:=apR;simp only at hq hr k o;have f1:af ((m:Y)-1-f)=m-1-f:=G;have f2:af ((m:Y)-1-f+n)=m-1-f+n:=G;have g:=OT (I r (af<|(m:Y)-1-f+n) 0) inv (k _) v G;have D:QS (2*s) (I r (m-1-f+n) 0*inv):=(k _).mul v;generalize x:I r (m-1-f+n) 0*inv=t at*;have g:ao c 72 [aQ (I r (af<|(m:Y)-1-f+n) 0),aQ inv] (aQ t):=by
   have u:I r (af<|(m:Y)-1-f+n) 0*inv=t:=by rw[f2];exact x
   rwa[u]at g
  have L:(K.set (af<|(m:Y)-1-f) t).getD (af<|(m:Y)-1-f) 0=t:=by rw[CO _ _ G,q J]
  have B:ao c 71 [aQ ((K.set (af<|(m:Y)-1-f) t).getD (af<|(m:Y)-1-f) 0)] (aQ<| -t):=by rw[L];exact ad3 t<|D.n.sm G
  have Q:=OX (s:=2*s) G r (-t) b (m-1-f) G G (λi=>(k i).le G) D.neg<|λi=>(H i).le G;have C:uy c 119 [.c (.X 0),aQ<| -t,S .q b,O<|(m:Y)-1-f] 44 .q r (.t []) (jD r (-t) b<|m-1-f):=by rw[(G:(m:Y)-1-f=((m-1-f:V):Y))];exact Q
  refine dc<|aK<|j<|az<|R<|rc J J g<|ux (T:= .q) t J J J J J ?_ (z J (cK<|rc J J B<|zq 2002000 J C J J (z J<|bL<|rt J (hp:=aF)<|a4 (f+1) l (G:m-(f+1)<m-f)<|wk ⟨sR J,sR J,sR J,sR J,sR J,sE J ?_,A⟩ ⟨bE J ?_,bR J,bE J ?_,A⟩) (hp:=?_)) (hp:=?_)) (hp:=?_)
  .show af ((m:Y)-1-f)<Z K;omega
  .exact jb (G:(m:Y)-1-f-1=(m:Y)-1-((f+1:V):Y))
  .rw[o,f1]
  .rw[o]
  .simp only[Pr.an,Pr.h,num,fX,true_and,and_true];first|done|omega
  .simp only[Pr.an,Pr.h,num,fX,true_and,and_true];first|done|omega
  .show 0<=(m:Y)-1-f/\(m:Y)-1-f<(Z K:Y);omega
 .have l:f=m:=by have l:¬(m:Y)-1-f>=0:=bc l;omega
  subst l;refine bt<|aK<|da 7004000 J J J<|da 2002000 J J J ?_;have W:=JH (dA inv a b n f f).1 G;have y:=JH (M n (dA inv a b n f f).2) IF;exact R<|rc J J W<|rc J J y (z J<|c7 J) (hp:=aF)
def apS T a:bg (.t<|(ah,[.V (.slice none 0 0)])::a) (.t<|(ah,[.S T []])::a):=by
 refine⟨λg v h=>?_,λi h=>?_⟩
 .let ⟨vs,e,h⟩:=h;obtain⟨b,r,rfl,d,f⟩:=h;exact⟨_,e,_,_,J,(bg.nil T).1 g b d,f⟩
 .simpa[AV.ak,eG,cp,C.ak]using h
def apT(a b:E N)(f:Z a<Z b)(m:Z b<=1000):
  ao c 65 [S .q a,S .q b] (.t [(ah,[.S .q []]),(ah,[.S .q a]),(ah,[.I .i64 0])]):=by
 refine aL Tryz.func65 ?_
 refine e J<|j<|e J<|F J (λh=>?_)<|λh=>aE ?_
 .have h:(Z b:Y)=0:=eq_of_beq h;exact absurd h G
 refine R<|rm ZZ (Z a) J J J J J J SZ J ?_ ?_<|z J ?_
 .show Z a*64<=_;omega
 .show Z a*4<=_;omega
 refine eR (st':=⟨[(0,.c<|.S ZZ<|a.map qz),(1,S .q b),(7,.c<|.X 2002000)],[(2002000,.vec 44 ZZ<|bl (Z a) (0,0))],3,[]⟩) (wk ⟨⟨_,J,ad8 a⟩,sR J,sR J,A⟩ ⟨bR J,A⟩) ?_
 refine nX ⟨[(0,.c<|.S ZZ<|a.map qz),(1,S .q b),(7,.c<|.X 2002000)],[(2002000,.vec 44 .q a)],4,[]⟩ ?_<|λd=>?_
 .refine e J (j<|e J<|F J (λh=>?_)<|λh=>?_)
  .exact da 2002000 J J J<|e J<|bV<|cQ<|iJ cv J<|apS _ _
  .have h:¬(Z (a.map qz):Y)<=(Z b:Y)-1:=bc h;rw[cT]at h;exact absurd f G
 .by_cases g:a=[]
  .subst g;exact cK<|apP J J J J J<|z J<|fJ d<|wk (bM J) ⟨⟨_,J,OU 44 []⟩,A⟩
  .have i:=cR.2 g;have k:Vp qz a++ay (Z<|Vp qz a) (bl (Z a) ((0,0):Y×Y))=a.map qz:=by rw[cT,Vo,kg,DV,ik]
   refine cK<|MQ J J J J J (by rw[fY,cT];omega) (λl=>by have:=bh Z l;rw[fY,sH]at this;omega)<|z J<|fJ d<|wk (bM J) ⟨⟨_,J,by rw[k];exact OU 44 a⟩,A⟩
def apU{l}{k}t(h:k<Z l)(a:I l k 0=0):Rx.zx (l.set k t)=Rx.zx l+Rx.K (t:N)*Rx.X k:=Rx.ext λi=>by
 rw[Rx.eo,Rx.dZ,Rx.rX,Rx.k4,Rx.k4,uH _ _ _ _ h];by_cases e:k=i
 .subst e;rw[q J,q J,a,OZ];grind
 .rw[y e,y<|λh=>e h.symm];grind
section
variable{P:bI}{tt:TT}
def aec{n}{a}{g}{w i}{o}{B}{H m:St}{ks}{k}{Q:St->Prop}{u}{v}
  (hs:a[i]? =ad o->sx P n a i u v (pP (λi=>1000000*w+1000*i) i)) (L:∀p∈u,H.kn p.1=ad p.2) (s:m.kn=bs H.kn v) (T:∀x∈dw u,x∈k.1) (W:∀x∈fP v,x∈k.2) (h:RG P n a g w (i+1) B m (ks++[k]) Q):RG P n a g w i (o::B) H ks Q:=by
 intro b
 have y:a[i]? =ad o:=by have:=bh (λl=>l[0]?) b;simpa[tJ]using this
 have d:ay (i+1) a.toList=B:=by rw[<-pY,b];rfl
 have C:=hs y
 let ⟨ds,K,hl,z,h2,A,D,X,E,F⟩:=h d
 refine⟨(u,v)::ds,K,by simp[hl],?_,?_,?_,D,X,?_,F⟩
 .intro j hj;cases j with
  |zero=>simpa using C
  |succ j=>
   have:=z j pZ
   rw[(G:i+(j+1)=i+1+j)]
   simpa using this
 .intro j hj p f;cases j with
  |zero=>simp only[vw]at f;simpa[oN]using L p f
  |succ j=>
   simp only[AW]at f
   have:=h2 j pZ p f
   rw[s]at this
   simpa[oN]using this
 .rw[A,s];simp[oN]
 .intro I;let ⟨c,⟨e,q⟩,t⟩:=E I;refine⟨k::c,⟨by simp[e],λj hj r=>?_⟩,by rwa[lP,List.singleton_append]at t⟩;cases j with
  |zero=>exact⟨T,W⟩
  |succ j=>simpa using q j pZ (by simpa using r)
def apV{n c1 k k'}{u}{i}{o:aX}(ho:u[i]? =ad o)(hg:o.guard=none){d:V}(hd:o.dst=ad d)(df:d<n){f}{args}{H}(L:o.op= .call ⟨.value<|.func f,args,H⟩)
 {T}{vs}{a7:AV} {p:E (V×aD)} (hv:jw T args.toList=ad vs) (hm:cM vs=[]) (hf:CX P f vs [] k a7 p k') (w:k'<=c1) (Hm:∀l∈a7.ak,k<=l) (Bm:∀l b,U l p=ad b->∀ix∈b.ak,k<=ix):
  sx P n u i (args.toList.flatMap<|cH T) ((.s d,ad<|.v a7)::kj k p) (λl=>k<=l/\l<c1):=by
 intro F jZ Q C O g W a K x aS X z
 have c:=A5 aS T _ _ hv X
 have q:d<a.tmps.size:=mm
 have A:=Rj hf (λl a6=>yF) (λl b h=>by simp[U]at h) (λl a6=> .inl<|Hm l a6) (λl b h=> .inr λix D=> .inl<|Bm l b h ix D) aS (λl a6=>x l ⟨a6.1,fO a6.2 w⟩) c (λl a6=>yF) (λl b h=>by simp[U]at h) q
 unfold wpOp
 simp only[ho,Region.wanted,hg,cd]
 refine .inl ?_
 unfold Oper.wp
 have y:(execOp a.eval o).run P W= .ok (.enter f<|args.map a.eval) W:=by
  have m:=hf.call;unfold mZ at m;rw[execOp,L];cases t:P.funcs[f]? with
  |none=>rw[t]at m;simp at m
  |some fn=>
   rw[t]at m
   simp only[cD,bne_iff_ne,ne_eq]at m
   have G:fn.body≠none:=by intro I;rw[I]at m;simp at m
   simp[resolve,Act.eval,xq,invoke,callFunc,t,m.1,G]
 rw[y]
 simp only[Oper.upon]
 have B:(args.map a.eval)=(args.toList.map a.eval).toArray:=yM
 rw[B]
 refine A.mono ?_
 rintro e J ⟨v,M,rfl,N⟩
 simp only[hd]
 refine z M J _<|N.weaken<|λl a6=>?_
 rcases a6 with a6|a6
 .exact .inl a6
 .exact .inr ⟨a6.1,fO a6.2 w⟩
def aed(P:bI)(d:Func)(f:AV):gM:=λF e a W=>(∀b,¬F.own b)->bodyPostM (di none) 0 P d (KZ F.w0 F.H0 f) e a W
def Vq{n}{x}(m:cq P tt=ae){p}{L}{Q l}(T:lu tt x L=ad Q)(s:bg Q l)(t:p.results=L.toArray:=by rfl)(hm:l.ak=[]:=by rfl):hP n .ret x OM (aed P p l):=by intro F y C z g W a h K f;obtain⟨_,_,mk,rfl,v,w⟩:=K;have X:a.defers=mk.map jz:=h.defers;show LeavesInM (di none) 0 P p a.tmps (KZ F.w0 F.H0 l) a.defers .returning W;rw[X];refine SX (B:=F.w0.heap.size) mk W v w ?_;intro c e;have d:=h.wx (W':=c) e;let ⟨u,hu,i⟩:=yP (P:=P) m d t T;refine⟨u,hu,u,g.H,J,?_,d.le,λb o j=>d.fresh b o j<|f b,d.sub,⟨d.below.os,d.below.tape,d.below.output,d.below.size,λk q=>d.below.block k q<|f k⟩⟩;exact(s.1 _ _ i).iy hm (cE.refl _) ja
def aee{n nx}{f}{g}{Q}{args}{w}(hf:P.funcs[f]? =ad g)(hb:g.body=ad Q)(hN:g.ntmps=n)(i:dU args.length n=ae)(B:cM args=[])(L:w.ak=[])(p8:(g.name != "runtime.NumGoroutine")=ae)
  (h:TJ P n Q ⟨dy 0 args,[],nx,[]⟩ OM (aed P g w)):ao P f args w:=by
 refine⟨yQ,L,?_⟩
 intro H W vs l d
 refine callsIn_wide.1<|callsIn_of_wp_marks (n:=0) (F:=di none) hf hb A ?_
 have K:=vI d
 have i:=cP i
 refine wpIn_mono (F:=di none) (h {w0:=W,H0:=H,n:=n} rfl (bf _) (.inl J) [] ⟨H,ja⟩ W _ ⟨?_,J,?_,?_,?_,?_,?_,l,⟨J,J,J,aT _,λ_ _ _=>rfl⟩,cE.refl _,λ_ _ _ _=>rfl,λ_ h=>absurd h<|tN _⟩ ⟨J,J,[],J,λD X=>(by cases X),List.nodup_nil⟩)<|λe a M q=>q<|λ_ h=>h
 .simp[hN,dm.dr];omega
 .intro t v T;simp only[St.kn,bS]at T;let ⟨x,hx,he⟩:=T;cases he;let ⟨_,u,hu,z,_⟩:=lv args vs 0 d t v hx;have o:vs[t]? =ad u:=vJ;have jh:t<Z vs:=(pS.1 o).1;have:(vs.toArray++qo (g.ntmps-vs.toArray.size) undef).getD t undef=u:=by rw[ls,tO yR];simp[o]
  rw[this];exact z
 .intro p b e;simp[St.kn,U]at e
 .intro p E b N k e;simp[St.kn,U]at e
 .intro k x e p C;cases k with
  |m j=>simp[St.kn,U]at e
  |s t=>
   simp only[St.kn,bS]at e
   let ⟨y,G,he⟩:=e
   subst he
   let ⟨_,u,_,_,I⟩:=lv args vs 0 d t y G
   have:=I p C
   rw[B]at this
   cases this
 .intro p x e;simp[St.kn,U]at e
end
def JK(g:Gh)(fm:E (V×aD))(b:V):Prop:=∃a d,U a fm=ad d/\cy (g.γ a)=ad b
def apW(g:Gh)(W:World)(fm:E (V×aD))(f:AV)(h:Ending)(d:World):Prop:=
 ∃v a,h= .returned v/\a8 ⟨a,ja⟩ f v/\cE g.H a/\(∀b o,b<W.heap.size->¬JK g fm b->a b o=g.H b o)/\Sub a d/\Dd (JK g fm) W d
structure O0(P:bI)(f:FuncId)(args:E AV)(fm:E (V×aD))(r:AV):Prop where
 call:mZ P f=ae
 iy:r.ak=[]
 spec:∀g W vs,Sub g.H W->fG g args vs->(∀d b,U d fm=ad b->ic (λ_=>True) g W d b)->(∀d a b h k,U d fm=ad b->U a fm=ad h->cy (g.γ d)=ad k->cy (g.γ a)=ad k->d=a)->Calls P f vs.toArray W (apW g W fm r)
def aef(P:bI)(g:Func)(h:AV):gM:=λF e a W=>bodyPost P g (λe f=>∃v d,e= .returned v/\a8 ⟨d,ja⟩ h v/\cE F.H0 d/\(∀b o,b<F.w0.heap.size->¬F.own b->d b o=F.H0 b o)/\Sub d f/\Dd F.own F.w0 f) e a W
section
variable{P:bI}{tt:TT}{n:V}{st:St}
def aeg(d:cq P tt=ae){l}{m}{o f}(p:lu tt st m=ad o)(i:bg o f)(k:l.results=m.toArray:=by rfl)(s:f.ak=[]:=by rfl):fA n .ret st (aef P l f):=by intro F t g W a h;let ⟨u,hu,b⟩:=yP d h k p;exact⟨h.defers.trans t.ds,u,hu,u,g.H,J,(i.1 _ _ b).iy s (cE.refl _) ja,h.le,h.fresh,h.sub,h.below⟩
def apX{f}{p}{ew}{args}{fm}{a7}o(hf:P.funcs[f]? =ad p)(hb:p.body=ad ew)(hN:p.ntmps=n)(w:dU args.length n=ae)(zp:∀d∈cM args,d<1000000*o)(B:wH (1000000*o) fm)(H9:a7.ak=[])(p8:(p.name != "runtime.NumGoroutine")=ae)
  (h:TR P n ew ⟨dy 0 args,fm,o,[]⟩ (aef P p a7)):O0 P f args fm a7:=by
 refine⟨yQ,H9,?_⟩
 intro g W vs C l K L
 refine calls_of_wp hf hb ?_
 have z:=vI l
 have w:=cP w
 have i:∀d b,St.kn ⟨dy 0 args,fm,o,[]⟩ (.m d)=ad (.b b)->U d fm=ad b:=by intro d b e;simp only[St.kn,bS]at e;let ⟨x,hx,he⟩:=e;cases he;exact hx
 let F:dm:={w0:=W,H0:=g.H,n:=n,own:=JK g fm,k0:=0}
 refine wp_mono (h F ⟨J,bf _,J,J⟩ g W _ ⟨?_,J,?_,?_,?_,?_,?_,C,⟨J,J,J,aT _,λ_ _ _=>rfl⟩,cE.refl _,λ_ _ _ _=>rfl,λ_ h=>absurd h<|tN _⟩)<|λe a S E=>E
 .simp[hN,F];omega
 .intro t v A;simp only[St.kn,bS]at A;let ⟨x,hx,he⟩:=A;cases he;let ⟨_,u,hu,G,_⟩:=lv args vs 0 l t v hx;have Q:vs[t]? =ad u:=vJ;have jh:t<Z vs:=(pS.1 Q).1;have:(vs.toArray++qo (p.ntmps-vs.toArray.size) undef).getD t undef=u:=by rw[ls,tO yR];simp[Q]
  rw[this];exact G
 .intro d b e;have q:=i d b e;exact(K d b q).D6 (λk I=> .inr ⟨d,b,q,I⟩) J J ⟨cE.refl _,λ_ _=>rfl⟩
 .intro d T b D k e q M N;exact L d T b D k (i d b e) (i T D q) M N
 .intro k x e d X;cases k with
  |m j=>
   cases x with
   |v y=>simp only[St.kn,bS]at e;let ⟨_,_,he⟩:=e;cases he
   |b b=>exact(B j b<|i j b e).2 d X
  |s t=>
   simp only[St.kn,bS]at e
   let ⟨y,O,he⟩:=e
   subst he
   let ⟨_,u,_,_,R⟩:=lv args vs 0 l t y O
   exact zp d<|R d X
 .intro d x e;cases x with
  |v y=>simp only[St.kn,bS]at e;let ⟨_,_,he⟩:=e;cases he
  |b b=>exact(B d b<|i d b e).1
def O1{a:Type}{d:V}{b:a}:∀{l:E (V×a)},U d l=ad b->d∈l.map (·.1)
 |[],h=>by simp[U]at h
 | (g,x)::l,h=>by
  simp only[U]at h;split at h
  .rename_i f;simp[f]
  .exact lL _<|O1 h
def aeh{d:Type}{a:V}:∀{l:E (V×d)},a∈l.map (·.1)->∃b,U a l=ad b
 |[],h=>by cases h
 | (g,x)::l,h=>by
  simp only[U];split
  .exact⟨x,J⟩
  .rename_i f;rcases bZ.1 h with h|h
   .exact absurd h.symm f
   .exact aeh h
def CP(l:E V):∀k,aC (l.map λa=>((.m a:Key),(none:Option Info))) k=(match k with| .m a=>if a∈l then ad none else none| .s _=>none):=by
 induction l with
 |nil=>intro k;cases k<;>simp[aC]
 |cons x l b=>
  intro k
  simp only[gJ,aC]
  cases k with
  |s t=>simp[b]
  |m a=>
   by_cases e:x=a
   .subst e;simp
   .simp only[Key.m.injEq,e,bQ,b,bZ];have:¬a=x:=λh=>e h.symm
    simp[this]
def apY{n new}{ops}{i}{o:aX}(ho:ops[i]? =ad o)(hg:o.guard=none){d:V}(hd:o.dst=ad d)(df:d<n){f}{args}{iz}(bO:o.op= .call ⟨.value<|.func f,args,iz⟩)
 {sl}{p fm}{nx:V} {gd:E (V×Bool)} {vs:E AV} {a7:AV} (hv:jw ⟨sl,p++fm,nx,gd⟩ args.toList=ad vs) (hf:O0 P f vs fm a7) (aei:∀l b,U l fm=ad b->U l p=none):
  lr P n ops i ⟨sl,p++fm,nx,gd⟩ ⟨(d,a7)::sl,p,nx,gd⟩ new (bJ args.toList++cY (fm.map (·.1)),.s d::(fm.map (·.1)).map .m):=by
 have R:∀l b,U l fm=ad b->U l (p++fm)=ad b:=λl b w=>by rw[Oz,aei l b w,w];rfl
 refine⟨args.toList.flatMap (cH ⟨sl,p++fm,nx,gd⟩)++fM ⟨sl,p++fm,nx,gd⟩ (fm.map (·.1)),(.s d,ad<|.v a7)::(fm.map (·.1)).map (λl=>(.m l,none)),?_,?_,?_,?_,?_⟩
 .intro F jZ Q known σ g W a K AN aS fE hK;have S:=A5 aS _ _ _ hv<|λZ B=>fE Z<|eH _ B;have oR:=xm (st:=⟨sl,p++fm,nx,gd⟩) (ids:=fm.map (·.1)) (σ:=σ)<|λZ B=>fE Z<|gI _ B;have G:∀l b,U l fm=ad b->σ (.m l)=ad (.b b):=λl b w=>oR l (O1 w) b (R l b w)
  have hc:=hf.spec g W _ aS.sub S (λl b w=>(aS.cA l b<|G l b w).D6 (λ_ _=>trivial) J J ⟨cE.refl _,λ_ _=>rfl⟩)<|λl tY b b' k C D h3 h4=>aS.inj l tY b b' k (G l b C) (G tY b' D) h3 h4;unfold wpOp;simp only[ho,Region.wanted,hg,cd];refine .inl ?_;unfold Oper.wp;have zp:args.map a.eval=(args.toList.map a.eval).toArray:=yM;have hex:(execOp a.eval o).run P W= .ok (.enter f (args.toList.map a.eval).toArray) W:=by
   have H:=hf.call;unfold mZ at H;rw[execOp,bO];cases Y:P.funcs[f]? with
   |none=>rw[Y]at H;simp at H
   |some fn=>
    rw[Y]at H
    simp only[cD,bne_iff_ne,ne_eq]at H
    have D:fn.body≠none:=by intro w;rw[w]at H;simp at H
    simp[resolve,Act.eval,xq,invoke,callFunc,Y,H.1,D]
    exact zp
  rw[hex];simp only[Oper.upon];refine hc.mono ?_;rintro e W' ⟨v,H',rfl,BD,hle,vK,tX,X⟩;simp only[hd];have gw:d<a.tmps.size:=mm;have M:fL (λ_=>True) g ⟨H',g.γ⟩:=⟨hle,λ_ _=>rfl⟩;have hN:∀b,JK g fm b->F.N b:=by rintro b ⟨l,bb,C,D⟩;exact((aS.cA l bb<|G l bb C).block D).1
  have hM:∀j b,bs σ ((.s d,ad<|.v a7)::(fm.map (·.1)).map (λl=>(.m l,none))) (.m j)=ad (.b b)->σ (.m j)=ad (.b b)/\∀k,cy (g.γ j)=ad k->¬JK g fm k:=by
   intro j b w;simp only[bs,aC,reduceCtorEq,bQ,CP]at w;by_cases e:j∈fm.map (·.1)
   .rw[q e]at w;cases w
   .rw[y e]at w;refine⟨w,λk L=>?_⟩;rintro⟨l,bb,C,D⟩;have:=aS.inj j l b bb k w (G l bb C) L D;subst this;exact e<|O1 C
  refine hK ⟨H',g.γ⟩ W' _ ⟨by simp[Act.put,aS.size],aS.defers,?_,?_,?_,?_,?_,tX,?_,aS.le.trans hle,?_,λl c=>⟨.inl (aS.fv l c).1,(aS.fv l c).2⟩⟩
  .intro t u ht;simp only[bs,aC,CP]at ht;by_cases e:d=t
   .subst e;simp only[cd,aq,Info.v.injEq]at ht;subst ht;have:=BD.iy hf.iy (cE.refl _) g.γ;simpa[Act.put,gw]using this
   .have e':¬(Key.s d=Key.s t):=λh=>e eh
    simp only[e',bQ]at ht;have hv:(a.put (ad d) v).tmps.getD t undef=a.tmps.getD t undef:=by simp[Act.put,kH e]
    rw[hv];exact a8.mono M (λ_ _=>trivial)<|aS.dv t u ht
  .intro j b w;let ⟨C,D⟩:=hM j b w;have O:=aS.cA j b C;refine O.uf M A (λ_ _=>trivial)<|λk L=>?_;have z:=(O.block L).2;exact⟨X.block k z<|D k L,λo=>vK k o z<|D k L⟩
  .intro j j' b b' k w oq C D;exact aS.inj j j' b b' k (hM j b w).1 (hM j' b' oq).1 C D
  .intro k x T l c;cases k with
   |s t=>
    simp only[bs,aC,CP]at T
    by_cases e:d=t
    .subst e;simp only[cd,aq]at T;subst T;have:l∈a7.ak:=c;rw[hf.iy]at this;cases this
    .have e':¬(Key.s d=Key.s t):=λh=>e eh
     simp only[e',bQ]at T;exact .inl<|aS.ak _ _ T l c
   |m j=>
    simp only[bs,aC,reduceCtorEq,bQ,CP]at T
    by_cases e:j∈fm.map (·.1)
    .rw[q e]at T;cases T
    .rw[y e]at T;exact .inl<|aS.ak _ _ T l c
  .intro j x T;simp only[bs,aC,reduceCtorEq,bQ,CP]at T;by_cases e:j∈fm.map (·.1)
   .rw[q e]at T;cases T
   .rw[y e]at T;exact .inl<|aS.dn _ _ T
  .refine⟨X.os.trans aS.below.os,X.tape.trans aS.below.tape,X.output.trans aS.below.output,b6 aS.below.size X.size,λk L I=>?_⟩;have z:k<W.heap.size:=fO L aS.below.size;rw[<-aS.below.block k L I];refine X.block k z<|λho=>?_;rcases hN k ho with C|C
   .omega
   .exact I C
  .intro k o L I;have z:k<W.heap.size:=fO L aS.below.size;show H' k o=_;rw[vK k o z (λho=>?_)]
   .exact aS.fresh k o L I
   .rcases hN k ho with C|C
    .omega
    .exact I C
 .intro Z B;rcases be.1 B with B|B
  .let ⟨x,_,h⟩:=iV.1 B;exact dX _ x Z h
  .exact lp _ _ Z B
 .funext k;cases k with
  |s t=>
   simp only[bs,aC,CP,St.kn,U]
   by_cases e:d=t
   .simp[e]
   .have e':¬(Key.s d=Key.s t):=λh=>e eh
    simp[e,e']
  |m j=>
   simp only[bs,aC,reduceCtorEq,bQ,CP,St.kn]
   by_cases e:j∈fm.map (·.1)
   .rw[q e];let ⟨b,w⟩:=aeh e;simp[aei j b w]
   .rw[y e];show _=Option.map Info.b (U j<|p++fm);rw[Oz];cases C:U j fm with
    |some b=>exact absurd (O1 C) e
    |none=>rw[Option.or_none]
 .intro k L;simp only[dw,fF,be]at L;rcases L with h|h
  .exact eH _<|eI _ _ k h
  .exact gI _<|kf _ _ k h
 .intro k L;simp only[fP,gJ,bZ,Mf]at L;rcases L with h|h
  .exact bZ.2<|.inl h
  .refine bZ.2<|.inr ?_;simpa[Function.comp]using h
end
section
variable{n:V}{Q:gM}{sl sl':E (V×AV)}{mem cu:E (V×aD)}{nx:V}{gd gd':E (V×Bool)}{ops:Array aX}{draw:Bool}{p:Pr}{ks dN:E Ks}{i i' n0 cJ:V}{os eB:E aX}{d:V}{ty:dH}{pos:String}{jA:Array Edge}{R:St->Prop}
def rcc{f}{args}{g}{conc fm}{vs}{l}(h:runs dP n nx draw ops.toList os i ⟨sl,mem,n0,gd⟩ .t ks=(⟨ad d,.call ⟨.value<|.func f,args,g⟩,ty,pos,jA,none⟩::eB,i',⟨sl',conc++fm,cJ,gd'⟩,p,dN))(u:jw ⟨sl',conc++fm,cJ,gd'⟩ args.toList=ad vs)(v:O0 c f vs fm l)(a:∀o b,U o fm=ad b->U o conc=none)
  (w:RG c n ops draw nx (i'+1) eB ⟨(d,l)::sl',conc,cJ,gd'⟩ (g8 draw dN (bJ args.toList++cY (fm.map (·.1)),.s d::(fm.map (·.1)).map .m)) R)
  (x:p:=by exact QU) (k:dt d n=ae:=by rfl):RG c n ops draw nx i os ⟨sl,mem,n0,gd⟩ ks R:=
 kh cv h x (nJ (λB=>apY B J J (cP k) J u v a)<|nK w)
end
def JL(l:E (V×aD))(a:V):E (V×aD)->Prop
 |[]=>True
 | (t,b)::g=>((∃v,U t l=ad v/\kK v b)\/∃d f,U t l=ad (.box d f [.V (.slice none 0 0)])/\b= .box d f [.X a])/\JL l a g
def JL.get{l:E (V×aD)}{b:V}:∀{m:E (V×aD)},JL l b m->∀{t a},U t m=ad a->(∃v,U t l=ad v/\kK v a)\/∃d f,U t l=ad (.box d f [.V (.slice none 0 0)])/\a= .box d f [.X b]
 |[],_,_,_,h=>by simp[U]at h
 | (k,x)::m,hw,t,a,h=>by
  simp only[U]at h;split at h
  .rename_i g;subst g;cases h;exact hw.1
  .exact JL.get hw.2 h
def apZ f aU T{sl}{mem}{nx}{gd}{n}{m2}{d}{B}(hs:A6 sl n)(hm:JL mem f m2)(a6:dU (1000000*nx) f=ae)
  (BK:wH (1000000*d) ((f,.vec aU T [])::m2)) (hbs:A7 (1000000*d) n=ae:=by rfl) (w:(dU 1 d&&dU 1 f)=ae:=by rfl):Wk ⟨sl,mem,nx,gd⟩ ⟨n,(f,.vec aU T [])::m2,d,B⟩:=by
 generalize C:(⟨sl,mem,nx,gd⟩:St)=st
 obtain rfl:sl=st.sl:=by rw[<-C]
 obtain rfl:mem=st.mem:=by rw[<-C]
 obtain rfl:nx=st.nx:=by rw[<-C]
 clear C
 intro F m5 g W a h
 simp only[cD]at w
 obtain⟨w,L⟩:=w
 have w:=cP w
 have L:=cP L
 have a6:=cP a6
 let P:Gh:=⟨g.H,λj=>if j=f then .slice none 0 0 else g.γ j⟩
 have l:fL (kb st) g P:=⟨cE.refl _,λj O=>by have O:j<1000000*st.nx:=O;have:j≠f:=G;simp[P,this]⟩
 have q:P.γ f= .slice none 0 0:=by simp[P]
 have S:∀f,f<F.k0->f<1000000*d/\P.γ f=F.γ0 f:=by intro j O;obtain⟨Y,Z⟩:=h.fv j O;refine⟨G,?_⟩;rw[l.γ j Y];exact Z
 have hS:∀t p,St.kn ⟨n,(f,.vec aU T [])::m2,d,B⟩ (.s t)=ad (.v p)->(∃v,st.kn (.s t)=ad (.v v)/\bg v p)/\∀f∈p.ak,f<1000000*d:=by intro t p e;simp only[St.kn,bS]at e;obtain⟨y,Q,K⟩:=e;cases K;refine⟨?_,DO hbs t p Q⟩;obtain⟨v,hv,l⟩:=hs.get Q;exact⟨v,p7,l⟩
 have R:∀j u,St.kn ⟨n,(f,.vec aU T [])::m2,d,B⟩ (.m j)=ad (.b u)->((j=f/\u= .vec aU T [])\/(∃b,st.kn (.m j)=ad (.b b)/\kK b u)\/∃I z,st.kn (.m j)=ad (.b<|.box I z [.V (.slice none 0 0)])/\u= .box I z [.X f])/\(j<1000000*d/\∀i∈u.ak,i<1000000*d):=by
  intro t p e;simp only[St.kn,bS]at e;obtain⟨y,Q,K⟩:=e;cases K;refine⟨?_,BK t p Q⟩;simp only[U]at Q;split at Q
  .rename_i e;cases Q;exact .inl ⟨e.symm,J⟩
  .rcases hm.get Q with⟨v,hv,l⟩|⟨I,z,hv,e⟩
   .exact .inr<|.inl ⟨v,p7,l⟩
   .exact .inr<|.inr ⟨I,z,p7,e⟩
 refine⟨P,h.size,h.defers,?_,?_,?_,?_,?_,h.sub,h.below,h.le,h.fresh,S⟩
 .intro t p e;obtain⟨v,hv,hav⟩:=(hS t p e).1;exact hav.1 _ _<|a8.mono l (h.ak _ _ hv)<|h.dv t v hv
 .intro j u e;rcases(R j u e).1 with⟨rfl,rfl⟩|⟨b,A,Hd⟩|⟨I,z,A,rfl⟩
  .exact .inl ⟨q,J⟩
  .exact Hd.1 _ _ _ _<|(h.cA j b A).uf l (h.dn _ _ A) (h.ak _ _ A)<|λk x=>⟨J,λo=>rfl⟩
  .obtain⟨k,vs,rest,e1,e2,e3,e4,e5,e6⟩:=(h.cA j _ A).uf l (h.dn _ _ A) (h.ak _ _ A)<|λk x=>⟨J,λo=>rfl⟩;refine⟨k,vs,rest,e1,e2,?_,e4,e5,e6⟩;obtain⟨v,r,rfl,Y,Z⟩:=e3;refine⟨v,r,J,?_,Z⟩;show v=P.γ f;rw[q];exact Y
 .intro i j M b2 k e e' x GW;have N:∀i M,St.kn ⟨n,(f,.vec aU T [])::m2,d,B⟩ (.m i)=ad (.b M)->cy (P.γ i)=ad k->∃c,st.kn (.m i)=ad (.b c)/\cy (g.γ i)=ad k:=by
   intro i M e x;rcases(R i M e).1 with⟨rfl,_⟩|⟨c,D,_⟩|⟨I,z,D,_⟩
   .rw[q]at x;cases x
   .rw[l.γ i (h.dn _ _ D)]at x;exact⟨c,D,x⟩
   .rw[l.γ i (h.dn _ _ D)]at x;exact⟨_,D,x⟩
  obtain⟨c,D,XC⟩:=N i M e x;obtain⟨c',DT,Bb⟩:=N j b2 e' GW;exact h.inj i j c c' k D DT XC Bb
 .intro k y e i hi;cases k with
  |s t=>
   cases y with
   |v p=>exact(hS t p e).2 i hi
   |b u=>simp only[St.kn,bS]at e;obtain⟨_,_,K⟩:=e;cases K
  |m j=>
   cases y with
   |v p=>simp only[St.kn,bS]at e;obtain⟨_,_,K⟩:=e;cases K
   |b u=>exact(R j u e).2.2 i hi
 .intro j y e;cases y with
  |v p=>simp only[St.kn,bS]at e;obtain⟨_,_,K⟩:=e;cases K
  |b u=>exact(R j u e).2.1
section
variable{P:bI}
def ap2{n}{d}{b}{f i}{g}{k}{l}{Q m:St->Prop}(h:RG P n d b f i g k l Q)(o:∀a,Q a->m a):RG P n d b f i g k l m:=λp=>by let ⟨ds,a,s,t,h2,u,v,w,x,B⟩:=h p;exact⟨ds,a,s,t,h2,u,v,w,x,o a B⟩
end
section
variable{n:V}{Q:gM}{O:uz}{sl sl':E (V×AV)}{mem cu:E (V×aD)}{nx:V}{gd gd':E (V×Bool)}{id:V}{ops:Array aX}{draw:Bool}{y:Code}{p:Pr}{ks dN:E Ks}{i i' n0 cJ:V}
def kr(d:zr O)(h:runs dP n nx draw ops.toList ops.toList 0 ⟨sl,mem,nx,gd⟩ .t []=([],i',⟨sl',cu,n0,gd'⟩,p,ks))(f:TJ c n y ⟨sl',cu,nx+1,[]⟩ O Q)
  (hp:p:=by exact ly) (g:(!draw||pX ops.toList ks)=ae:=by kernel_rfl) (a:dU ops.size 1000=ae:=by rfl) (b:qv mem=ae:=by rfl):TJ c n (.seq (.region id ops draw) y) ⟨sl,mem,nx,gd⟩ O Q:=
 mF (MR MX d b<|kh cv h hp<|G4 (lU f) g a)
def kt(d:zr O)(h:runs dP n nx draw ops.toList ops.toList 0 ⟨sl,mem,nx,gd⟩ .t []=([],i',⟨sl',cu,n0,gd'⟩,p,ks))(f:hP n .normal ⟨sl',cu,nx+1,[]⟩ O Q)
  (g:p:=by exact ly) (k:(!draw||pX ops.toList ks)=ae:=by kernel_rfl) (a:dU ops.size 1000=ae:=by rfl) (b:qv mem=ae:=by rfl):TJ c n (.region id ops draw) ⟨sl,mem,nx,gd⟩ O Q:=
 MR MX d b (kh cv h g<|G4 f k a)
def yj(d:zr O)(h:RG c n ops draw nx 0 ops.toList ⟨sl,mem,nx,gd⟩ [] (λa=>TJ c n y a O Q))(b:qv mem=ae:=by rfl):TJ c n (.seq (.region id ops draw) y) ⟨sl,mem,nx,gd⟩ O Q:=mF<|MR MX d b<|ap2 h λ_ h=>lU h
def FX(d:zr O)(h:RG c n ops draw nx 0 ops.toList ⟨sl,mem,nx,gd⟩ [] (λa=>hP n .normal a O Q))(b:qv mem=ae:=by rfl):TJ c n (.region id ops draw) ⟨sl,mem,nx,gd⟩ O Q:=MR MX d b h
end
def O2{n f i}{a}{g}{m p}{k b d}{s}{l}(h:runs dP n f ah a.toList (ay i a.toList) i k .t []=(g,m,b,s,l))(t:SG c n a f m b p d)
  (v:s:=by first|trivial| (simp only[Pr.an,Pr.h,num,fX,true_and,and_true];first|done|omega)| (simp[Pr.an,Pr.h,num,fX];done)| (simp[Pr.an,Pr.h,num,fX];omega)):SG c n a f i k p d:=
 (aaW cv _ i k .t [] h v (λq o u=>by rw[tJ]at u;rw[<-DH];exact u)).1 A t
def ap3 n:(mc n).Pairwise (λx a=>b8 x.testBit n<b8 a.testBit n\/(b8 x.testBit n=b8 a.testBit n/\x<a)):=by
 have one:∀s,(u6 n s).Pairwise (λx a=>b8 x.testBit n<b8 a.testBit n\/(b8 x.testBit n=b8 a.testBit n/\x<a)):=λs=>by refine Ot ?_ (List.Pairwise.filter _ (Ku (n:=2^n)):(u6 n s).Pairwise (·<·));intro x a b d g;simp only[u6,oM,beq_iff_eq]at b d;omega
 have f:∀k,((cw k).flatMap λs=>u6 n<|s+1).Pairwise (λx a=>b8 x.testBit n<b8 a.testBit n\/(b8 x.testBit n=b8 a.testBit n/\x<a)):=by
  intro k;induction k with
  |zero=>exact .nil
  |succ k h=>
   rw[yB,D5]
   refine yg.2 ⟨h,?_,λx b a d=>?_⟩
   .simp only[lq,OQ,ik];exact one<|k+1
   .simp only[iV,pO,lq,OQ,ik,u6,oM,beq_iff_eq]at b d;let ⟨s,i,h2,l⟩:=b;left;omega
 exact f _
def mw(b B a:V):V:=cond (Nat.beq a b) B a
def O3{b B a}(h:a≠b):mw b B a=a:=by
 unfold mw;cases e:Nat.beq a b with
 |true=>exact absurd (kO e) h
 |false=>rfl
def aej a B:mw a B a=B:=by unfold mw;rw[Bt];rfl
def ap4{k:Type}{d B}{m:E (V×k)}(g:U B m=none):∀b a,(U b m).isSome=ae->(U a m).isSome=ae->mw d B b=mw d B a->b=a:=by
 intro b a h i e;by_cases f:b=d<;>by_cases h2:a=d
 .rw[f,h2]
 .subst f;rw[aej,O3 h2]at e;subst e;rw[g]at i;cases i
 .subst h2;rw[aej,O3 f]at e;subst e;rw[g]at h;cases h
 .rwa[O3 f,O3 h2]at e
def Vr{n}{l}{d}{m}{f}{Mo}(p:l=if m then .normal else .exit f)(h:1<=d.nx)(o:d.mem=Mo):hP n l d uC (Ik m f Mo):=by intro F C s u g W a i w;have k:u=[]:=w;subst k;refine⟨p,g,d.nx,h,?_⟩;let ⟨sl,mem,nx,gd⟩:=d;simp only at o h;subst o;exact aJ.frame (F:=F.dr []) (n':=(F.dr []).n) (ds':=[]) (rd':=(F.dr []).rd) i i.size i.defers (λt v x=>by simp[U]at x)<|λH b B=>B
open Classical in
open Classical in
section
variable{P:bI}{tt:TT}
def ap5{n}{l}{a}{g i d}{f}{first b}{ty}{pos}{v}{H}{o}{mem}{p}{u}{L}{Q:St->Prop}{T W}
  (hf:sL ⟨o,mem,p,u⟩ first.toList=ad T) (hc:sL ⟨o,mem,p,u⟩ b.toList=ad W)
  (h:∀k,RG P n l a g (i+1) H ⟨(d,.c<|.X<|1000000*g+1000*i)::o,(1000000*g+1000*i,.dI f T W)::mem,p,u⟩ (L++[k]) Q) (w:dt d n=ae:=by rfl):
  RG P n l a g i (⟨ad d,.makeFunc (.func f) first b,ty,pos,v,none⟩::H) ⟨o,mem,p,u⟩ L Q:=
 aec (k:=(_,_)) (λC=>(Yh C J J (cP w) J hf hc<|1000000*g+1000*i).Kw ⟨aT _,by show _<1000000*g+1000*(i+1);omega⟩) (λK B=>by
  let ⟨x,_,h⟩:=iV.1 B;exact dX _ x K h) (by
   funext key;cases key with
   |s t=>
    by_cases e:d=t
    .subst e;simp[St.kn,U,bs,aC]
    .simp[St.kn,U,bs,aC,e]
   |m j=>
    by_cases e:1000000*g+1000*i=j
    .subst e;simp[St.kn,U,bs,aC]
    .simp[St.kn,U,bs,aC,e]) (λ_ h=>h) (λ_ h=>h) (h _)
def ap6{i}{k l:Ending->World->Prop}(h:∀b w,k b w->l b w){b}{a}{w}(d:bodyPost P i k b a w):bodyPost P i l b a w:=by
 cases b with
 |normal=>let ⟨f,v,h2,g⟩:=d;exact⟨f,v,h2,h _ _ g⟩
 |ret=>let ⟨f,v,h2,g⟩:=d;exact⟨f,v,h2,h _ _ g⟩
 |panic c=>exact⟨d.1,h _ _ d.2⟩
 |outgrown=>exact h _ _ d
 |_=>exact d
def aek(P:bI)(b:Func)(d:AV)(fm:E (V×aD)):gM:=λF e a W=>bodyPost P b (λe f=>∃v g,e= .returned v/\a8 g d v/\aJ F (λ_=>True) (St.kn ⟨[],fm,0,[]⟩) g f {tmps:=qo F.n undef,defers:=[]}) e a W
def ap7(i:cq P tt=ae){n}{l}{s}{w}{x}(H:lu tt l w=ad x)(m:s.results=w.toArray:=by rfl):fA n .ret l (aek P s x l.mem):=by intro F B g W a h;let ⟨u,hu,d⟩:=yP i h m H;refine⟨h.defers.trans B.ds,u,hu,u,g,J,d,ax,B.ds.symm,?_,λf b C=>h.cA f b C,λf o b K k L Q=>h.inj f o b K k L Q,λ_ _ _ _ _=>trivial,λ_ _ _=>trivial,h.sub,h.below,h.le,h.fresh,λf p=>⟨A,(h.fv f p).2⟩⟩;intro t v T;simp[St.kn,U]at T
def ap8(B:V->V){n}{f}{fn}{ew}{vs}{k k'}{a7}{fm0 fm}(hf:P.funcs[f]? =ad fn)(hb:fn.body=ad ew)(hN:fn.ntmps=n)(hle:dU (Z vs) n=ae)(zp:cM vs=[])(p8:(fn.name != "runtime.NumGoroutine")=ae)
  (h:TR P n ew ⟨dy 0 vs,[],0,[]⟩ (aek P fn (Ju B a7) fm0)) (kL:k<=k') (FY:∀d∈a7.ak,k<=d/\d<k') (L:∀d b,U d fm=ad b->U (B d) fm0=ad (FR B b)/\(k<=d/\d<k')/\∀T∈b.ak,k<=T/\T<k')
  (ap9:∀d i,(U d fm).isSome=ae->(U i fm).isSome=ae->B d=B i->d=i):CX P f vs [] k a7 fm k':=by
 refine⟨yQ,kL,?_⟩
 intro F g W Q hn m6 p
 have D:fG g vs Q:=ZA vs Q 0 Q m6 (λT hj=>ax) (λt v S=>p.dv t v<|by simp[St.kn,S])
 have z:fG ⟨g.H,ja⟩ vs Q:=D.iy zp
 refine calls_of_wp hf hb ?_
 have hle:=cP hle
 refine wp_mono (h {w0:=W,H0:=g.H,n:=n} ⟨J,bf _,J,J⟩ ⟨g.H,ja⟩ W _ ⟨?_,J,?_,?_,?_,?_,?_,p.sub,⟨J,J,J,aT _,λ_ _ _=>rfl⟩,cE.refl _,λ_ _ _ _=>rfl,λ_ h=>absurd h<|tN _⟩)<|λe a W' hq=>?_
 .simp[hN];omega
 .intro t v S;simp only[St.kn,bS]at S;obtain⟨x,C,w⟩:=S;cases w;obtain⟨_,u,hu,hr,_⟩:=lv vs Q 0 z t v C;have M:Q[t]? =ad u:=vJ;have jh:t<Z Q:=(pS.1 M).1;have:(Q.toArray++qo (fn.ntmps-Q.toArray.size) undef).getD t undef=u:=by rw[ls,tO yR];simp[M]
  rw[this];exact hr
 .intro d b e;simp[St.kn,U]at e
 .intro d i b X k e;simp[St.kn,U]at e
 .intro k x e d l;cases k with
  |m T=>simp[St.kn,U]at e
  |s t=>
   simp only[St.kn,bS]at e
   obtain⟨bN,hy,w⟩:=e
   subst w
   obtain⟨_,u,_,_,h6⟩:=lv vs Q 0 z t bN hy
   have:=h6 d l
   rw[zp]at this
   cases this
 .intro d x e;simp[St.kn,U]at e
 refine ap6 ?_ hq
 rintro e W' ⟨v,O,rfl,hv,K⟩
 let I:Gh:=⟨O.H,λd=>if d<k then g.γ d else O.γ (B d)⟩
 have A:fL (λd=>k<=d) ⟨O.H,λd=>O.γ<|B d⟩ I:=⟨cE.refl _,λd l=>by show(if d<k then _ else _)=_;rw[y G]⟩
 have R:∀d b,(St.kn ⟨[(0,a7)],fm,0,[]⟩) (.m d)=ad (.b b)->U d fm=ad b:=λd b e=>by simp only[St.kn,bS]at e;obtain⟨x,C,w⟩:=e;cases w;exact C
 have hS:∀t u,(St.kn ⟨[(0,a7)],fm,0,[]⟩) (.s t)=ad (.v u)->t=0/\u=a7:=λt u e=>by
  simp only[St.kn,U,bS]at e;obtain⟨x,C,w⟩:=e;cases w;split at C
  .rename_i e;cases C;exact⟨e.symm,J⟩
  .cases C
 have hB:∀d b,U d fm=ad b->ic F.N I W' d b:=λd b e=>by obtain⟨m1,m2,m3⟩:=L d b e;have hr:=K.cA (B d) (FR B b) (by simp[St.kn,m1]);have hr2:=adG hr;have hr3:=hr2.step (known:=λd=>k<=d) (chg:=λ_=>False) (g':=I) (W':=W') ⟨A,λ_ _ _=>rfl,K.sub,aT _,λ_ _ _=>rfl,J,J,J⟩ m2.1 (λT hj=>(m3 T hj).1)<|λ_ _ h=>h.elim;exact hr3.Mq (λx _ _ _ _ C=> .inl<|b6 p.below.size<|C.resolve_right<|λh=>h)<|λx _ C=> .inl<|b6 p.below.size<|C.resolve_right<|λh=>h
 refine⟨v,I,J,J,p.defers,?_,λd b e=>hB d b<|R d b e,?_,?_,?_,K.sub,?_,p.le.trans K.le,?_,?_⟩
 .intro t u e;obtain⟨rfl,rfl⟩:=hS t u e;have:=a8.mono A (λd l=>(FY d l).1)<|adD hv;simpa[m7]using this
 .intro d i b X Y e e' hk GW;have e:=R _ _ e;have e':=R _ _ e';obtain⟨m1,m2,m3⟩:=L d b e;obtain⟨n1,n2,n3⟩:=L i X e';refine ap9 d i tu (by rw[e'];rfl) (K.inj (B d) (B i) _ _ Y (by simp[St.kn,m1];rfl) (by simp[St.kn,n1];rfl) ?_ ?_)
  .have:=hk;simp only[I,y (G:¬d<k)]at this;exact this
  .have:=GW;simp only[I,y (G:¬i<k)]at this;exact this
 .intro key x e d l;cases key with
  |s t=>
   cases x with
   |v u=>obtain⟨rfl,rfl⟩:=hS t u e;exact(FY d l).2
   |b X=>simp only[St.kn,bS]at e;obtain⟨_,_,w⟩:=e;cases w
  |m T=>
   cases x with
   |v v'=>simp only[St.kn,bS]at e;obtain⟨_,_,w⟩:=e;cases w
   |b X=>exact((L T X<|R T X e).2.2 d l).2
 .intro d x e;cases x with
  |v v'=>simp only[St.kn,bS]at e;obtain⟨_,_,w⟩:=e;cases w
  |b X=>exact((L d X<|R d X e).2.1).2
 .exact⟨K.below.os.trans p.below.os,K.below.tape.trans p.below.tape,K.below.output.trans p.below.output,b6 p.below.size K.below.size,λY hk E=>by rw[K.below.block Y (fO hk p.below.size) (λh=>h)];exact p.below.block Y hk E⟩
 .intro b o hb E;show O.H b o=F.H0 b o;rw[K.fresh b o (fO hb p.below.size) (λh=>h)];exact p.fresh b o hb E
 .intro d l;obtain⟨i1,i2⟩:=p.fv d l;exact⟨fO i1 kL,by show(if d<k then _ else _)=_;rw[q i1];exact i2⟩
end
section
variable{n:V}{sl sl':E (V×AV)}{mem cu:E (V×aD)}{nx:V}{gd gd':E (V×Bool)}{ops:Array aX}{draw:Bool}{p:Pr}{ks dN:E Ks}{i i' n0 cJ:V}
variable{R:St->Prop}{os:E aX}{d f:V}{ty:dH}{pos:String}{jA:Array Edge}{eB:E aX}
def aqb{first a}{g l}(h:runs dP n nx draw ops.toList os i ⟨sl,mem,n0,gd⟩ .t ks=(⟨ad d,.makeFunc (.func f) first a,ty,pos,jA,none⟩::eB,i',⟨sl',cu,cJ,gd'⟩,p,dN))(m:sL ⟨sl',cu,cJ,gd'⟩ first.toList=ad g)(o:sL ⟨sl',cu,cJ,gd'⟩ a.toList=ad l)
  (s:∀k,RG c n ops draw nx (i'+1) eB ⟨(d,.c<|.X<|1000000*nx+1000*i')::sl',(1000000*nx+1000*i',.dI f g l)::cu,cJ,gd'⟩ (dN++[k]) R)
  (u:p:=by exact QU) (b:dt d n=ae:=by rfl):RG c n ops draw nx i os ⟨sl,mem,n0,gd⟩ ks R:=
 kh cv h u (ap5 m o s b)
end
def aqc{f}{mem a}{g}{i}{d}{l}{k}(o:∀n b,U n a=ad b->k<=n):St.kn ⟨(d,l)::f,a++mem,g,i⟩=bs (St.kn ⟨f,mem,g,i⟩) ((.s d,ad<|.v l)::kj k a):=by
 funext key;cases key with
 |s t=>
  by_cases e:d=t
  .subst e;simp[St.kn,U,bs,aC]
  .simp[St.kn,U,bs,aC,e,yZ]
 |m j=>
  simp only[St.kn,bs,aC,y4,Oz]
  cases h:U j a with
  |none=>simp
  |some b=>simp[o j b h]
section
variable{n:V}{sl sl':E (V×AV)}{mem cu:E (V×aD)}{nx:V}{gd gd':E (V×Bool)}{ops:Array aX}{draw:Bool}{p:Pr}{ks dN:E Ks}{i i' n0 cJ:V}
variable{R:St->Prop}{os:E aX}{d f:V}{args:Array Operand}{iz:Array dH}{ty:dH}{pos:String}{jA:Array Edge}{eB:E aX}{vs:E AV}{r:AV}{Br:E (V×aD)}{k':V}
def rcN(h:runs dP n nx draw ops.toList os i ⟨sl,mem,n0,gd⟩ .t ks=(⟨ad d,.call ⟨.value<|.func f,args,iz⟩,ty,pos,jA,none⟩::eB,i',⟨sl',cu,cJ,gd'⟩,p,dN))(u:jw ⟨sl',cu,cJ,gd'⟩ args.toList=ad vs)(v:CX c f vs [] (1000000*nx+1000*i') r Br k')
  (g:k'<=1000000*nx+1000*(i'+1)) (l:∀a∈r.ak,1000000*nx+1000*i'<=a) (w:∀a b,U a Br=ad b->1000000*nx+1000*i'<=a) (m:∀a b,U a Br=ad b->∀B∈b.ak,1000000*nx+1000*i'<=B)
  (H:∀k,RG c n ops draw nx (i'+1) eB ⟨(d,r)::sl',Br++cu,cJ,gd'⟩ (dN++[k]) R)
  (L:p:=by exact QU) (P:cM vs=[]:=by rfl) (o:dt d n=ae:=by rfl):RG c n ops draw nx i os ⟨sl,mem,n0,gd⟩ ks R:=
 kh cv h L (aec (k:=(_,_)) (λC=>apV C J J (cP o) J u P v g l m) (λK s=>by let ⟨x,_,h⟩:=iV.1 s;exact dX _ x K h) (aqc w) (λ_ h=>h) (λ_ h=>h)<|H _)
end
open Classical in
def aem{n}{i b}(k:Wk i b):hP n .normal i uC (λd l a W=>l= .normal/\∃g,aJ (d.dr []) (kb b) b.kn g W a):=λd _ f m g W a o p=>by have h:m=[]:=p;subst h;let ⟨s,t⟩:=k (d.dr []) f g W a o;exact⟨J,s,t⟩
def O4 n g(b:g≠0)(d:Sm n)(a:Sm g):ao c 147 [aZ n,aZ g] (aZ<|n/g):=by refine aL Tryz.func147 ?_;refine e J<|bH J J (Fh n g b d a) J<|e J<|bY J ?_;rfl
def Sm.gcd{n d}(f:d≠0)(h:Sm d):Sm ((im n d:V):Y):=by have a:im n d<=aA d:=Nat.gcd_le_right _ G;have b:Z (r<|aA<|((im n d:V):Y))<=Z (r<|aA d):=sZ (by rw[o9];exact a);exact b6 b h
def Sm.ng{a}(h:Sm a):Sm (-a):=by
 have e:er (-a)=er a:=by unfold er;rw[Int.natAbs_neg]
 unfold Sm at*;rw[e];exact h
def O5 n d(g:d≠0)(i:Sm n)(a:Sm d):ao c 92 [aZ n,aZ d] (aQ<|jC n d):=by
 refine aL Tryz.func92 ?_;have k:im n d≠0:=λl=>g (TA.1 l).2
 let ⟨p1,f⟩:=M8 n d g;have b:Sm ((im n d:V):Y):=Sm.gcd g a;refine e J<|bH J J (Ny n d i a) J<|j<|R<|rc J J (B5 d)<|z J ?_;refine F J (λh=>?_)<|λh=>?_
 .have h:d<0:=by
   have h:eV d<0:=eh;unfold eV at h;split at h
   .assumption
   ·(try split at h)<;>omega
  rw[q h]at p1 f;refine cK<|rc J J (abg _)<|z J<|aK<|R ?_;refine rc J J (O4 n _ G i<|Sm.ng b)<|rc J J (O4 d _ G a<|Sm.ng b)<|z J<|bY J ?_;unfold aQ;simp only[av,p1,f];rfl
 .have h:¬d<0:=by
   have h:¬eV d<0:=eh;unfold eV at h;split at h
   .omega
   .assumption
  rw[y h]at p1 f;refine aE<|R ?_;refine rc J J (O4 n _ G i b)<|rc J J (O4 d _ G a b)<|z J<|bY J ?_;unfold aQ;simp only[av,p1,f];rfl
def Vs n d(b:d≠0)(f:Sm n)(a:Sm d):ao c 134 [aZ n,aZ d] (.t [(ae,av .q<|jC n d),(ah,[.I .i64 0])]):=by
 refine aL Tryz.func134 ?_;refine e J<|j<|bH J J (B5 d) J ?_;refine F J (λh=>?_)<|λh=>?_
 .exfalso;have h:eV d=0:=eh;unfold eV at h;split at h
  .omega
  ·(try split at h)<;>omega
 .refine aE<|bH J J (O5 n d b f a) J<|bY J ?_;rfl
def CQ{k}a b(f:QS k a)(g:QS k b)(i:k<=500000000000):ao c 41 [aQ a,aQ b] (aQ<|a*b):=by
 refine aL Tryz.func41 ?_;have l:=Ca (den_pos a)<|den_pos b;have h:jC (a.num*b.num) ((a.den:Y)*(b.den:Y))=a*b:=by rw[<-FW,n8,n8]
 rw[<-h];refine e J<|R<|rc J J (kV _ _ (f.n.sm G)<|g.n.sm G)<|rc J J (kV _ _ (f.d.sm G)<|g.d.sm G)<|rc J J (O5 _ _ G ((f.n.mul g.n).sm G)<|(f.d.mul g.d).sm G)<|z J<|bY J ?_;rfl
def aen{k}a b(f:QS k a)(g:QS k b)(p:k<=500000000000):ao c 42 [aQ a,aQ b] (aQ<|a+b):=by
 refine aL Tryz.func42 ?_;have h:=f.n.mul g.d;have i:=g.n.mul f.d;have l:=f.d.mul g.d;have m:=h.add i;have s:=Ca (den_pos a)<|den_pos b;have o:jC (a.num*(b.den:Y)+b.num*(a.den:Y)) ((a.den:Y)*(b.den:Y))=a+b:=by have t:=den_pos a;have u:=den_pos b;rw[<-Vk _ _ G G,n8,n8]
 rw[<-o];refine e J<|R<|rc J J (kV _ _ (f.n.sm G)<|g.d.sm G)<|rc J J (kV _ _ (g.n.sm G)<|f.d.sm G)<|rc J J (xK _ _ (h.sm G)<|i.sm G)<|rc J J (kV _ _ (f.d.sm G)<|g.d.sm G)<|rc J J (O5 _ _ G (m.sm G)<|l.sm G)<|z J<|bY J ?_;rfl
def aqd{k}a b(f:QS k a)(g:QS k b)(h:k<=500000000000):ao c 216 [aQ a,aQ b] (O<|dK (a.num*(b.den:Y))<|b.num*(a.den:Y)):=by refine aL Tryz.func216 ?_;refine e J<|R<|rc J J (kV _ _ (f.n.sm G)<|g.d.sm G)<|rc J J (kV _ _ (g.n.sm G)<|f.d.sm G)<|rc J J (M4 _ _)<|z J<|c7 J
def aqe{k}a b(h:b.num≠0)(f:QS k a)(g:QS k b)(m:k<=500000000000):ao c 133 [aQ a,aQ b] (.t [(ae,av .q<|a/b),(ah,[.I .i64 0])]):=by
 refine aL Tryz.func133 ?_;have i:(a.den:Y)*b.num≠0:=z6 (by have:=den_pos a;omega) h;have l:jC (a.num*(b.den:Y)) ((a.den:Y)*b.num)=a/b:=by rw[<-FW,n8,uW];congr 1;conv=>rhs;rw[<-n8 b,Rat.inv_divInt]
 rw[<-l];refine e J<|R<|rc J J (kV _ _ (f.n.sm G)<|g.d.sm G)<|rc J J (kV _ _ (f.d.sm G)<|g.n.sm G)<|rc J J (Vs _ _ i ((f.n.mul g.d).sm G)<|(f.d.mul g.n).sm G)<|z J<|bY J ?_;rfl
def aeo a(f:Sm a):ao c 93 [aZ a] (cB ae):=by
 refine aL Tryz.func93 ?_;have g:Z (r<|aA a)<=1099511627776:=f;have b:Z (er a)<=1099511627776:=f;refine e J<|e J<|j<|e J<|F J (λh=>?_)<|λh=>aE ?_
 .have h:(Z (r<|aA a):Y)=0:=eq_of_beq h;have k:a=0:=by have:¬0<Z (r<|aA a):=G;rw[oX]at this;omega
  subst k;exact e J<|bV<|cQ<|atR J
 .have h:(Z (r<|aA a):Y)≠0:=nY h;have i:0<Z (er a):=by show 0<Z (r<|aA a);omega
  refine e J (hp:=aF)<|bY J ?_;have l:=wa<|aA a;refine bh cB ?_;rcases l with d|d
  .rw[d]at h;simp at h
  .show(I (r<|aA a) (af<|(Z (r<|aA a):Y)-1) 0 !=0)=ae;rw[(G:af ((Z (r<|aA a):Y)-1)=Z (r<|aA a)-1)];simpa using d
def aep a b(k:Sm a):ao c 68 [aZ a,aZ b] (cB<|decide<|a=b):=by
 refine aL Tryz.func68 ?_;have k:Z (er a)<=1099511627776:=k;refine e J<|j<|R<|rg 11 J J (λh=>?_)<|λh=>?_
 .have h:cj a≠cj b:=adA.1 h;refine z J<|F J (λ_=>e J<|bV<|cQ<|fg J<|bh cB ?_)<|λh2=>qJ;rw[s5 (λg=>h<|by rw[g])]
 .have h:cj a=cj b:=by
   have h:¬(cj a !=cj b)=ae:=by rw[h];decide
   rw[adA]at h;exact Decidable.not_not.1 h
  refine z J<|F J (λh2=>?_)<|λh2=>aE ?_
  .have h2:=zK h2;refine e J<|bV<|cQ<|fg J<|bh cB ?_;rw[s5 (λg=>h2<|by rw[g])]
  .have h2:=xS h2;refine j<|e J<|az<|bq (α:=V) (λi=>⟨[(2,.c<|.P 0 0),(3,.c<|.P 1000 0),(5,O i)],[(0,.box 42 0<|av .z a),(1000,.box 42 0<|av .z b)],4,[]⟩) (λi=>i<=Z (er a)/\M i (er a)=M i (er b)) (λi=>Z (er a)-i) 0 ⟨bf _,ax⟩ (wk (bM J) ⟨bE J J,bE J J,A⟩) ?_;rintro i ⟨l,ht⟩;refine j (e J<|F J (λd=>?_)<|λd=>?_)
   .have d:i<Z (er a):=by have d:(i:Y)<(Z (er a):Y):=aW d;omega
    refine aE<|j<|az<|e J (hp:=aF)<|F J (λf=>?_)<|λf=>dc<|bL ?_
    .have f:I (er a) i 0≠I (er b) i 0:=zK f;refine e J<|bV ?_;repeat(first|refine cQ ?_|refine lQ ?_|refine mq ?_)
     refine fg J<|bh cB ?_;rw[s5 (λg=>f<|by rw[g])]
    .have f:I (er a) i 0=I (er b) i 0:=xS f;exact rt J<|a4 (i+1) ⟨d,by rw[rR _ i d,rR _ i G,ht,f]⟩ (G:Z (er a)-(i+1)<Z (er a)-i)<|wk (bM J) ⟨bE J J,bE J J,A⟩
   .have d:i=Z (er a):=by have d:¬(i:Y)<(Z (er a):Y):=bc d;omega
    subst d;rw[gQ,iY G]at ht;refine bt<|aK<|e J<|bY J<|bh cB ?_;rw[qB (ao8 h ht)]
def FZ{k}a b(i:QS k a)(l:k<=100000000000):ao c 21 [aQ a,aQ b] (cB<|decide<|a=b):=by
 refine aL Tryz.func21 ?_;refine e J<|R<|rc J J (aep a.num b.num<|i.n.sm G)<|rg 10 J J (λh=>?_)<|λh=>?_
 .have h:a.num=b.num:=aW h;refine gO J J J J J (aep (a.den:Y) (b.den:Y)<|i.d.sm G)<|z J<|bY J ?_;refine bh cB ?_;by_cases f:(a.den:Y)=(b.den:Y)
  .rw[qB f,qB<|Rat.ext h G];rfl
  .rw[s5 f,s5<|λg=>f<|by rw[g]];rfl
 .have h:¬a.num=b.num:=bc h;refine z J<|bY J ?_;refine bh cB ?_;rw[s5 (λg=>h<|by rw[g])]
def JM{k}a(b:QS k a)(i:k<=100000000000):ao c 39 [aQ a] (cB ae):=by
 refine aL Tryz.func39 ?_;have l:=den_pos a;refine e J<|j<|R<|rc J J (aeo a.num<|b.n.sm G)<|rg 7 J J (λh=>fR)<|λ_=>?_;refine gO J J J J J (aeo (a.den:Y)<|b.d.sm G)<|rg 13 J J (λh=>fR)<|λ_=>?_;refine gO J J J J J (B5 (a.den:Y))<|z J<|F J (λh=>?_)<|λ_=>aE ?_
 .exfalso;have h:eV (a.den:Y)<1:=aW h;unfold eV at h;split at h
  .omega
  .split at h<;>omega
 have f:=Ny a.num (a.den:Y) (b.n.sm G)<|b.d.sm G;have g:im a.num (a.den:Y)=1:=a.reduced;rw[g]at f;refine R<|rc J J f<|rc J J (jn 1 D D)<|rc J J (M4 ((1:V):Y) 1)<|z J<|c7 J
def fK(a b:E N):E N:=if Z a<Z b then a else fI ((dA (I b (Z b-1) 0)⁻¹ a b (Z b-1) (Z a+1-Z b) (Z a+1-Z b)).2.take<|Z b-1)
def eO(a:E N):E N:=if a=[]then[]else fI (vd (I a (Z a-1) 0)⁻¹ a)
def jL:V->E N->E N->E N
 |0,a,_=>a
 |k+1,a,b=>if b=[]then a else jL k b (eO<|fK a b)
structure CR(s:V)(a b:E N):Prop where
 la:a.length<=500
 lb:b.length<=500
 bn:b.getD (b.length-1) 0≠0
 qb:∀i,QS s (b.getD i 0)
 qS:∀d,d<=a.length+1-b.length->∀i,QS s ((dA (b.getD (b.length-1) 0)⁻¹ a b (b.length-1) (a.length+1-b.length) d).2.getD i 0)
 rn:fK a b≠[]->(fK a b).getD ((fK a b).length-1) 0≠0
 qr:∀i,QS s ((fK a b).getD i 0)
def Aj(s:V):V->E N->E N->Prop
 |0,_,b=>b=[]
 |k+1,a,b=>b=[]\/(CR s a b/\Aj s k b (eO<|fK a b))
def F0 l:Z (fI l)<=Z l:=Vt
def Ak{a b}(d:b≠[]):Z (fK a b)<Z b:=by
 have f:=cR.2 d;unfold fK;split
 .assumption
 .exact wg (F0 _) IF
abbrev UT:ET:= .pr (.sl .q) nb
namespace Rx
def Vu(l:E N):∀n,jU l n<=n/\(∀i,jU l n<=i->i<n->I l i 0=0)/\(jU l n=0\/I l (jU l n-1) 0≠0)
 |0=>⟨aT _,λi _ h=>absurd h G,.inl J⟩
 |n+1=>by
  rw[jU];split
  .rename_i h;let ⟨b,a,d⟩:=Vu l n;refine⟨G,λi f g=>?_,d⟩;by_cases e:i=n
   .subst e;exact Rat.num_eq_zero.1 h
   .exact a i f G
  .rename_i h;exact⟨aT _,λi b a=>absurd a G,.inr λe=>h<|by rw[eE]at e;rw[e];rfl⟩
def F1(a:E N) n i:(M n a).getD i 0=if i<n then I a i 0 else 0:=by
 rw[aN,GU];split
 .rw[aN]
 .rfl
def aeq{l}{n}(h:∀i,n<=i->I l i 0=0):lx (M n l)=lx l:=ext λi=>by
 rw[fj,fj,F1];split
 .rfl
 .exact(h i G).symm
def r9 l:lx (fI l)=lx l:=aeq λi a=>by
 by_cases e:i<Z l
 .exact(Vu l<|Z l).2.1 i a e
 .exact g5 l G
def k6 l:bU (fI l):=by
 let ⟨d,h2,a⟩:=Vu l<|Z l;have b:Z (fI l)=jU l (Z l):=Vt;rcases a with a|a
 .exact .inl<|gK G
 .by_cases e:jU l (Z l)=0
  .exact .inl<|gK G
  .right;rw[b];unfold fI;rw[F1,q G];exact a
def bU.ne{a}(h:bU a)(b:a≠[]):I a (Z a-1) 0≠0:=h.resolve_left b
def CS{a}(h:bU a)(b:a≠[]):lx a≠0:=λe=>b<|rY h wq<|e.trans pj.symm
def aer b a:lx (vd b a)=K b*lx a:=ext λi=>by rw[dZ];exact ad9 b a i
def aqf a:lx (tk a)=bA (lx a):=ext λi=>by
 rw[qO,fj,fj];by_cases h:i<Z a-1
 .rw[ad' h];rfl
 .rw[g5 (tk a) (by rw[Vn];omega),g5 a G,dY]
def JN{r b}a{k}(h:k+Z b<=Z r):lx (jD r a b k)=lx r+K a*(X k*lx b):=ext λi=>by
 rw[eo,dZ,mL,fj,fj];by_cases d:i<Z r
 .rw[show I (jD r a b k) i 0=_ from vb d];by_cases e:k<=i/\i<k+Z b
  .rw[q e,q e.1];rfl
  .rw[y e];split
   .rw[fj,g5 b G,dY,nl]
   .rw[dY,nl]
 .rw[g5 (jD r a b k) (by rw[jD,ns];omega),g5 r G];split
  .rw[fj,g5 b G,dY,nl]
  .rw[dY,nl]
def aqg a d b:lx (yi a d b)=lx a+K d*lx b:=by unfold yi;rw[JN d (by rw[OY G];omega),acK,one_mul];congr 1;exact ext λi=>aea a _ i
def aqh{l}{k}t(h:k<Z l)(a:I l k 0=0):lx (l.set k t)=lx l+K t*X k:=ext λi=>by
 rw[eo,dZ,rX,fj,fj,CO i t h];by_cases e:k=i
 .subst e;rw[q J,q J,a];grind
 .rw[y e,y<|λh=>e h.symm];grind
def Vv{a b:E N}{n m:V}(o:Z b=n+1)(p:Z a=n+m)(s:I b n 0≠0):∀d,d<=m->
  lx a=lx (dA (I b n 0)⁻¹ a b n m d).1*lx b+lx (dA (I b n 0)⁻¹ a b n m d).2/\(∀i,i<m-d->(dA (I b n 0)⁻¹ a b n m d).1.getD i 0=0)/\(∀i,n+(m-d)<=i->(dA (I b n 0)⁻¹ a b n m d).2.getD i 0=0)
 |0,_=>by have f:∀i,I (bl m (0:N)) i 0=0:=JJ m;refine⟨?_,λi _=>f i,λi g=>g5 a G⟩;show lx a=lx (bl m 0)*lx b+lx a;rw[show lx (bl m (0:N))=0 from ext f,zero_mul,zero_add]
 |d+1,t=>by
  let ⟨h,h2,l⟩:=Vv o p s d G;let ⟨l1,l2⟩:=Ai (I b n 0)⁻¹ a b n m d;rw[dA];generalize dA (I b n 0)⁻¹ a b n m d=x at*;let ⟨v,r⟩:=x;simp only at h h2 l l1 l2⊢;refine⟨?_,λi g=>?_,λi g=>?_⟩
  .rw[aqh _ G (h2 _ G),JN _ G,h,add_mul,N5,neg_mul,mul_assoc (K _)<|X _];generalize K (I r (m-1-d+n) 0*(I b n 0)⁻¹)*(X (m-1-d)*lx b)=u;rw[add_assoc,<-add_assoc u,add_comm u,add_assoc<|lx r,add_neg,add_zero]
  .rw[CO i _ G,y G,h2 i G]
  .have:=bh (λA:Rx=>A i)<|JN (r:=r) (b:=b) (-(I r (m-1-d+n) 0*(I b n 0)⁻¹)) (k:=m-1-d) G;simp only[eo,dZ,mL,fj]at this;rw[this,q G];by_cases e:i=m-1-d+n
   .subst e;rw[(G:m-1-d+n-(m-1-d)=n)];grind
   .rw[l i G,g5 b (i:=i-(m-1-d)) G];grind
def jr(a b:E N):E N:=if Z a<Z b then[]else fI (dA (I b (Z b-1) 0)⁻¹ a b (Z b-1) (Z a+1-Z b) (Z a+1-Z b)).1
def O6 a b:bU (jr a b):=by
 unfold jr;split
 .exact wq
 .exact k6 _
def Vw{a b}(f:bU b)(d:b≠[]):lx a=lx (jr a b)*lx b+lx (fK a b):=by
 have l:=cR.2 d;unfold jr fK;by_cases h:Z a<Z b
 .rw[q h,q h,pj,zero_mul,zero_add]
 .rw[y h,y h,r9,r9];let ⟨g,_,k⟩:=Vv (a:=a) (b:=b) (n:=Z b-1) (m:=Z a+1-Z b) G G (f.ne d) _<|aT _;rw[aeq (λi o=>k i G)];exact g
def yk{a b}(d:bU a):bU (fK a b):=by
 unfold fK;split
 .exact d
 .exact k6 _
def CG{a b}(i:bU a)(g:bU b)(d:b≠[])(h:lx b∣lx a):lx a=lx (jr a b)*lx b:=by
 have f:=Vw (a:=a) g d;have k:lx (fK a b)=0:=by
  refine s8 (A:=lx b) ?_ ?_
  .rw[f]at h;exact wo h<|dvd_mul_left _ _
  .rw[fS (yk i),fS g];exact Ak d
 rw[k,add_zero]at f;exact f
def ve a:bU (eO a):=by
 unfold eO;split
 .exact wq
 .exact k6 _
def Al{a}(b:a≠[]):lx (eO a)=K (I a (Z a-1) 0)⁻¹ *lx a:=by rw[eO,y b,r9,aer]
def O7:eO []=[]:=q J
def sa{a:N}(h:a≠0):a⁻¹ ≠0:=λe=>by have:=nq _ h;rw[e,mO]at this;exact absurd this D
def aes{a}(h:bU a)(b:a≠[]):Mo (lx<|eO a):=by have f:=cR.2 b;have d:=ef (s7<|sa<|h.ne b)<|CS h b;rw[wz (sa<|h.ne b),fS h]at d;rw[Al b,Mo,dZ,(G:sz (K (I a (Z a-1) 0)⁻¹ *lx a)-1=Z a-1),fj,nq _<|h.ne b]
def Vx{a}(h:bU a):Z (eO a)=Z a:=by
 by_cases b:a=[]
 .subst b;rw[O7]
 .have d:=ef (s7<|sa<|h.ne b)<|CS h b;rw[wz (sa<|h.ne b),fS h,<-Al b,fS<|ve a]at d;omega
def aet a:lx a∣lx (eO a)/\(bU a->lx (eO a)∣lx a):=by
 by_cases b:a=[]
 .subst b;rw[O7];exact⟨dvd_refl _,λ_=>dvd_refl _⟩
 .rw[Al b];refine⟨dvd_mul_left _ _,λh=>⟨K<|I a (Z a-1) 0,?_⟩⟩;rw[<-mul_assoc,mul_comm (K _)<|K _,ph<|h.ne b,one_mul]
def aeu:∀(k:V)(a b:E N),bU a->bU b->Z b<k->bU (jL k a b)/\lx (jL k a b)∣lx a/\lx (jL k a b)∣lx b/\∃f d,lx (jL k a b)=f*lx a+d*lx b
 |0,_,_,_,_,h=>by omega
 |k+1,a,b,i,l,h=>by
  rw[jL];split
  .rename_i g;subst g;exact⟨i,dvd_refl _,by rw[pj];exact dvd_zero _,1,0,by rw[one_mul,zero_mul,add_zero]⟩
  .rename_i g;have p:=Ak (a:=a) g;have m:=yk (b:=b) i;have n:=Vw (a:=a) l g;let ⟨i1,i2,i3,f,d,i4⟩:=aeu k b (eO<|fK a b) l (ve _) (by rw[Vx m];omega);let ⟨d1,d2⟩:=aet<|fK a b;let ⟨w,hw⟩:=d1;have o:=dvd_trans i3<|d2 m;refine⟨i1,by rw[n];exact dvd_add (dQ i2 _) o,i2,d*w,f-d*w*lx (jr a b),?_⟩;rw[i4,hw,n,mul_add,sub_mul];have:d*w*(lx (jr a b)*lx b)+d*w*lx (fK a b)+(f*lx b-d*w*lx (jr a b)*lx b)=(f*lx b-d*w*lx (jr a b)*lx b+d*w*lx (jr a b)*lx b)+d*(w*lx (fK a b)):=fq;rw[this,lF]
def aqi{k}{a b}(g:bU a)(h:bU b)(i:Z b<k)(l:a≠[]):jL k a b≠[]/\bU (eO<|jL k a b)/\Jh (lx<|eO<|jL k a b) (lx a) (lx b):=by
 let ⟨f,h2,m,U,V,n⟩:=aeu k a b g h i;have d:jL k a b≠[]:=λe=>by rw[e,pj]at h2;let ⟨w,hw⟩:=h2;rw[mul_zero]at hw;exact CS g l hw
 let ⟨d1,d2⟩:=aet<|jL k a b;let ⟨w,hw⟩:=d1;refine⟨d,ve _,aes f d,dvd_trans (d2 f) h2,dvd_trans (d2 f) m,w*U,w*V,?_⟩;rw[hw,n,mul_add,mul_assoc,mul_assoc]
end Rx
def CT(xs:E N)(g:Z xs<=1000000):ao c 62 [S .q xs] (S .q<|fI xs):=by
 refine aL Tryz.func62 ?_;refine e J<|e J ?_;refine dj<|az<|bq (α:=V) (λk=>⟨[(0,S .q xs),(3,O k)],[],2,[]⟩) (λk=>k<=Z xs/\jU xs k=jU xs (Z xs)) (λk=>k) (Z xs) ⟨aT _,J⟩ aV ?_;rintro k ⟨i,a⟩;have b:jU xs k=k->bg (S .q<|M k xs) (S .q<|fI xs):=λd=>by refine bg.of_eq ?_;unfold fI;rw[<-a,d]
 refine dj<|R ?_;refine rg 8 J J (λh=>?_)<|λh=>?_
 .have h:0<k:=by have h:(k:Y)>0:=aW h;omega
  obtain⟨j,rfl⟩:∃j,k=j+1:=⟨k-1,G⟩;have f:af (((j+1:V):Y)-1)=j:=G;refine gO J J J J J (M7<|I xs (af<|((j+1:V):Y)-1) 0) (z J ?_) (hp:=kp);refine F J (λh2=>?_)<|λh2=>?_
  .have h2:(I xs j 0).num=0:=by have h2:eV (I xs (af<|((j+1:V):Y)-1) 0).num=0:=eq_of_beq h2;rw[f]at h2;exact u7.1 h2
   refine aE<|az<|rt J (fB<|a4 j ⟨G,?_⟩ sY<|wk ⟨sR J,sE J ?_,A⟩ A) (hp:=kp)
   .rw[<-a,jU,q h2]
   .exact jb (G:((j+1:V):Y)-1=(j:Y))
  .have h2:(I xs j 0).num≠0:=by have h2:eV (I xs (af<|((j+1:V):Y)-1) 0).num≠0:=nY h2;rw[f]at h2;exact λd=>h2 (u7.2 d)
   exact bt<|aK<|e J (bV<|iJ cv J<|b<|by rw[jU,y h2]) (hp:=aF)
 .have h:k=0:=by have h:¬(k:Y)>0:=bc h;omega
  subst h;exact z J<|F J (λh2=>qJ)<|λ_=>bt<|aK<|e J (bV<|iJ cv J<|b J) (hp:=aF)
def aev(a:E N)(i:V):ao c 89 [S .q a,O i] (aQ<|I a i 0):=by
 refine aL Tryz.func89 ?_;refine e J<|j<|e J<|F J (λh=>?_)<|λh=>?_
 .have h:i<Z a:=by have h:(i:Y)<(Z a:Y):=aW h;omega
  refine e J (hp:=aF)<|bV<|cQ<|fg J ?_;rfl
 .have h:¬i<Z a:=by have h:¬(i:Y)<(Z a:Y):=bc h;omega
  refine aE<|bH J J (zC 0 D D) J<|bY J ?_;rw[Rx.g5 a G];rfl
def aqj(xs:E N)(i:Z xs<=1000000):O0 c 62 [.c (.X 2002000)] [(2002000,.vec 44 .q xs)] (S .q<|fI xs):=by
 refine apX 3 Tryz.func62 J J J (λl d=>by rw[iw.1 d];decide) (wH.of J) J D ?_;refine eR (K9 2002000 J) ?_;refine e J<|e J ?_;refine dj<|az<|bq (α:=V) (λk=>⟨[(0,S .q xs),(3,O k)],[],5,[]⟩) (λk=>k<=Z xs/\jU xs k=jU xs (Z xs)) (λk=>k) (Z xs) ⟨aT _,J⟩ aV ?_;rintro k ⟨m,a⟩;have b:jU xs k=k->bg (S .q<|M k xs) (S .q<|fI xs):=λf=>by refine bg.of_eq ?_;unfold fI;rw[<-a,f]
 refine dj<|R ?_;refine rg 8 J J (λh=>?_)<|λh=>?_
 .have h:0<k:=by have h:(k:Y)>0:=aW h;omega
  obtain⟨j,rfl⟩:∃j,k=j+1:=⟨k-1,G⟩;have g:af (((j+1:V):Y)-1)=j:=G;refine gO J J J J J (M7<|I xs (af<|((j+1:V):Y)-1) 0) (z J ?_) (hp:=kp);refine F J (λh2=>?_)<|λh2=>?_
  .have h2:(I xs j 0).num=0:=by have h2:eV (I xs (af<|((j+1:V):Y)-1) 0).num=0:=eq_of_beq h2;rw[g]at h2;exact u7.1 h2
   refine aE<|az<|rt J (fB<|a4 j ⟨G,?_⟩ sY<|wk ⟨sR J,sE J ?_,A⟩ A) (hp:=kp)
   .rw[<-a,jU,q h2]
   .exact jb (G:((j+1:V):Y)-1=(j:Y))
  .have h2:(I xs j 0).num≠0:=by have h2:eV (I xs (af<|((j+1:V):Y)-1) 0).num≠0:=nY h2;rw[g]at h2;exact λf=>h2 (u7.2 f)
   exact bt<|aK<|e J (bV<|aeg cv J<|b<|by rw[jU,y h2]) (hp:=aF)
 .have h:k=0:=by have h:¬(k:Y)>0:=bc h;omega
  subst h;exact z J<|F J (λh2=>qJ)<|λ_=>bt<|aK<|e J (bV<|aeg cv J<|b J) (hp:=aF)
def lH(a:E N):E N:=fI<|0::a
def aew(a:E N)(d:Z a<=1000):ao c 88 [S .q a] (S .q<|lH a):=by
 refine aL Tryz.func88 ?_;refine e J<|R<|rc J J (zC 0 D D)<|gP .q [((0:Y):N)] J J (z J ?_);refine R<|ra J J J J J J J J J ?_ ?_<|rcc (conc:=[]) (fm:=[(2002000,.vec 44 .q<|((0:Y):N)::a)]) J J (aqj _ O8) (λf b h=>rfl)<|z J<|c7 J
 .show(1+Z a+(1+Z a)/4+192)*64<=_;omega
 .show(1+Z a)*4<=_;omega
def kD(a b:E N):E N:=fI<|(cw<|max (Z a)<|Z b).map λi=>I a i 0+I b i 0
def jd(a:N)(b:E N):E N:=fI<|(cw<|Z b).map λi=>a*I b i 0
def Vy(f:V->N) i:(cw<|i+1).map f=(cw i).map f++[f i]:=by rw[yB,fF];rfl
def O9{k}a b(o:Z b<=1000)(f:QS k a)(g:∀i,QS k (I b i 0))(l:k<=500000000000):ao c 43 [aQ a,S .q b] (S .q<|jd a b):=by
 refine aL Tryz.func43 ?_;refine e J<|R<|gP .q [] J J (z J<|j<|e J ?_);refine az<|bq (α:=V) (λi=>⟨[(1,S .q b),(2,.c<|.P 0 0),(5,.c<|.X 1000000),(6,O i)],[(0,.box 44 0<|av .q a),(1000000,.vec 44 .q<|(cw i).map λi=>a*I b i 0)],10,[]⟩) (λi=>i<=Z b) (λi=>Z b-i) 0 (bf _) (wk ⟨sR J,sR J,sR J,sE J J,A⟩<|ow J) ?_;intro i p;have m:Z ((cw i).map λi=>a*I b i 0)=i:=ax;refine j<|e J<|F J (λh=>?_)<|λh=>?_
 .have h:i<Z b:=by have h:(i:Y)<(Z b:Y):=aW h;omega
  have n:af ((i:Y))=i:=cr i;have d:=CQ a (I b (af<|(i:Y)) 0) f (g _) l;refine aE<|j<|az<|cK ?_;refine rc J J d ?_ (hp:=aF);refine rl .q [a*I b (af<|(i:Y)) 0] J J (ra J J J J J J J J J ?_ ?_<|z J<|fB<|aK<|rt J (hp:=aF)<|a4 (i+1) h (G:Z b-(i+1)<Z b-i)<|Wk.trans (wk (st':=⟨[(1,S .q b),(2,.c<|.P 0 0),(5,.c<|.X 11008000),(6,O (i+1:V))],[(0,.box 44 0<|av .q a),(11008000,.vec 44 .q<|(cw<|i+1).map λi=>a*I b i 0)],13,[]⟩) (bM J) ⟨bR J,bE J ?_,A⟩)<|Wk.trans (gW 1000000 11008000 J J J) aV)
  .show(Z ((cw i).map λi=>a*I b i 0)+1+(Z ((cw i).map λi=>a*I b i 0)+1)/4+192)*64<=_;omega
  .show(Z ((cw i).map λi=>a*I b i 0)+1)*4<=_;omega
  .rw[Vy,n]
 .have h:i=Z b:=by have h:¬(i:Y)<(Z b:Y):=bc h;omega
  subst h;exact nL<|rk<|ov<|nM<|aK<|eR (K9 1000000 J)<|R<|rc J J (CT _ G)<|z J<|bV<|atR J
def O'{k}a b(p:Z a<=1000)(s:Z b<=1000)(g:∀i,QS k (I a i 0))(l:∀i,QS k (I b i 0))(m:k<=500000000000):ao c 36 [S .q a,S .q b] (S .q<|kD a b):=by
 refine aL Tryz.func36 ?_;refine e J<|R<|gP .q [] J J (z J<|j<|e J ?_);obtain⟨M,f⟩:∃M,M=max (Z a) (Z b):=⟨_,J⟩;have n:(if(Z a:Y)<(Z b:Y)then(Z b:Y)else(Z a:Y))=(M:Y):=by rw[f];split<;>omega
 refine az<|bq (α:=V) (λi=>⟨[(0,S .q a),(1,S .q b),(5,.c<|.X 1000000),(6,O i)],[(1000000,.vec 44 .q<|(cw i).map λi=>I a i 0+I b i 0)],10,[]⟩) (λi=>i<=M) (λi=>M-i) 0 (bf _) (wk ⟨sR J,sR J,sR J,sE J J,A⟩ ⟨bR J,A⟩) ?_;intro i t;have o:Z ((cw i).map λi=>I a i 0+I b i 0)=i:=ax;refine j<|e J<|F J (λh=>?_)<|λh=>?_
 .have h:i<M:=by have h:(i:Y)<_:=aW h;rw[q J]at h;split at h<;>omega
  have d:=aen (I a i 0) (I b i 0) (g i) (l i) m;refine aE<|j<|az<|cK ?_;refine rc J J (aev a i)<|rc J J (aev b i)<|rc J J d ?_;refine rl .q [I a i 0+I b i 0] J J (ra J J J J J J J J J ?_ ?_<|z J<|fB<|aK<|rt J (hp:=aF)<|a4 (i+1) h xJ<|Wk.trans (wk (st':=⟨[(0,S .q a),(1,S .q b),(5,.c<|.X 11009000),(6,O (i+1:V))],[(11009000,.vec 44 .q<|(cw<|i+1).map λi=>I a i 0+I b i 0)],13,[]⟩) (bM J) ⟨bE J ?_,A⟩)<|Wk.trans (gW 1000000 11009000 J J J) aV)
  .show(Z ((cw i).map λi=>I a i 0+I b i 0)+1+(Z ((cw i).map λi=>I a i 0+I b i 0)+1)/4+192)*64<=_;omega
  .show(Z ((cw i).map λi=>I a i 0+I b i 0)+1)*4<=_;omega
  .rw[Vy]
 .have h:i=M:=by have h:¬(i:Y)<_:=bc h;rw[q J]at h;split at h<;>omega
  subst h;subst f;exact nL<|rk<|ov<|nM<|aK<|eR (K9 1000000 J)<|R<|rc J J (CT _ G)<|z J<|bV<|atR J
def CU l i:I (fI l) i 0=I l i 0:=by have:=bh (λA:Rx=>A i)<|Rx.r9 l;exact this
def aex(f:V->N) n i:I ((cw n).map f) i 0=if i<n then f i else 0:=by
 rw[aN,iN];by_cases h:i<n
 .rw[jV h,q h];rfl
 .rw[jS bX,y h];rfl
def Pa a b i:I (kD a b) i 0=I a i 0+I b i 0:=by
 rw[kD,CU,aex];split
 .rfl
 .rw[Rx.g5 a G,Rx.g5 b G,nl]
def Am a b i:I (jd a b) i 0=a*I b i 0:=by
 rw[jd,CU,aex];split
 .rfl
 .rw[Rx.g5 b G,dY]
def aey a i:I (lH a) i 0=I (0::a) i 0:=CU _ i
def Vz a b:Rx.lx (kD a b)=Rx.lx a+Rx.lx b:=Rx.ext λi=>Pa a b i
def JO a b:Rx.lx (jd a b)=Rx.K a*Rx.lx b:=Rx.ext λi=>by rw[Rx.dZ];exact Am a b i
def aqk a:Rx.lx (lH a)=Rx.X 1*Rx.lx a:=by rw[lH,Rx.r9,Rx.N6,Rx.nj,Rx.zero_add]
def An l:Z (fI l)<=Z l:=Vt
def F3(a b:E N):V->E N
 |0=>[]
 |d+1=>kD (lH<|F3 a b d)<|jd (I a (Z a-1-d) 0) b
def aql(a:E N){b}(h:b<Z a):ay (Z a-(b+1)) a=I a (Z a-1-b) 0::ay (Z a-b) a:=by rw[rJ (G:Z a-(b+1)<Z a),(G:Z a-(b+1)+1=Z a-b),aN,cO (G:Z a-1-b<Z a)];simp only[(G:Z a-(b+1)=Z a-1-b)];rfl
def aez(a b:E N):∀d,d<=Z a->Rx.lx (F3 a b d)=Rx.lx (ay (Z a-d) a)*Rx.lx b
 |0,_=>by rw[F3,BW,List.drop_length,Rx.pj,Rx.zero_mul]
 |d+1,h=>by rw[F3,Vz,aqk,JO,aez a b d G,aql a G,Rx.N6,Rx.add_mul,Rx.mul_assoc,Rx.add_comm]
def aqm a b d:Rx.bU (F3 a b d):=by
 cases d with
 |zero=>exact Rx.wq
 |succ d=>exact Rx.k6 _
namespace Rx
def yl(a:V)(b:Y)(d:Rx):Prop:=∀i,∃z:Y,aA z<=a/\(b:N)*d i=(z:N)
def Ht(a:V)(b:Rx):Prop:=∃D:Y,D≠0/\aA D<=a/\yl a D b
def Ao{a:Y}(h:a≠0):(a:N)≠0:=λe=>h<|Rat.intCast_eq_zero_iff.1 e
def yl.le{a b}{d}{f}(h:yl a d f)(k:a<=b):yl b d f:=λi=>by let ⟨z,g,h2⟩:=h i;exact⟨z,b6 g k,h2⟩
def Ht.le{a b}{d}(h:Ht a d)(k:a<=b):Ht b d:=by let ⟨D,f,h2,g⟩:=h;exact⟨D,f,b6 h2 k,g.le k⟩
def Ht.zero{a}(h:1<=a):Ht a 0:=⟨1,D,h,λ_=>⟨0,bf _,dY _⟩⟩
def Ht.qs{d s}{a}(h:Ht d a)(o:d<4294967296^s) i:QS s (a i):=by
 let ⟨D,l,g,m⟩:=h;let ⟨z,k,f⟩:=m i;have b:∀(D z:Y),0<D->aA D<=d->aA z<=d->(D:N)*a i=(z:N)->QS s (a i):=by
  intro D z n g k f;have e:jC z D=a i:=by have p:=nq _<|Ao (G:D≠0);rw[Oi,uW,<-f];grind
  rw[<-e];exact JG n (G:aA z<4294967296^s) (G:aA D<4294967296^s)
 rcases Int.lt_trichotomy D 0 with e|e|e
 .exact b (-D) (-z) G G G (by rw[JP,JP,<-f];grind)
 .exact absurd e l
 .exact b D z e g k f
def qW{a b}{d f}(h:aA a<=d)(k:aA b<=f):aA (a*b)<=d*f:=by rw[rP];exact l0 h k
def Ht.sub{a b}{d B}(h:Ht a d)(k:Ht b B):Ht (2*(a*b)) (d-B):=by
 let ⟨D,g,h2,l⟩:=h;let ⟨E,m,f,n⟩:=k;refine⟨D*E,z6 g m,by have:=qW h2 f;omega,λi=>?_⟩;let ⟨z,o,p⟩:=l i;let ⟨w,s,t⟩:=n i;refine⟨z*E-D*w,?_,?_⟩
 .have u:=qW o f;have v:=qW h2 s;omega
 .rw[uO,fT,Og,fT,fT,<-p,<-t];grind
def Ht.bA{d n}{a}(h:Ht d a)(m:sz a<=n)(b:1<=n):Ht (n*d) (bA a):=by
 let ⟨D,f,h2,g⟩:=h;refine⟨D,f,by have:=l0 b h2;omega,λi=>?_⟩;by_cases o:n<=i+1
 .exact⟨0,bf _,by rw[qO,mb G,dY,dY];rfl⟩
 .let ⟨z,k,l⟩:=g<|i+1;refine⟨((i+1:V):Y)*z,qW G k,?_⟩;rw[qO,fT,<-l,r6];grind
def Ht.aqn{b k}{a}(h:Ht b a)(g:a k≠0):Ht b (K (a k)⁻¹ *a):=by
 let ⟨D,l,h2,d⟩:=h;let ⟨w,m,f⟩:=d k;have n:w≠0:=λe=>by
  subst e;rcases zX.1 (f.trans OZ)with e|e
  .exact Ao l e
  .exact g e
 refine⟨w,n,m,λi=>?_⟩;let ⟨z,o,p⟩:=d i;refine⟨z,o,?_⟩;rw[dZ,<-f,<-p];grind
def Ht.smul{a b}{d}{f}(h:Ht a d)(k:Ht b (K f)):Ht (a*b) (K f*d):=by let ⟨D,l,h2,m⟩:=h;let ⟨E,n,o,p⟩:=k;refine⟨D*E,z6 l n,qW h2 o,λi=>?_⟩;let ⟨z,s,t⟩:=m i;let ⟨w,u,g⟩:=p 0;refine⟨z*w,qW s u,?_⟩;rw[lE,q J]at g;rw[dZ,fT,fT,<-t,<-g];grind
def aeA{a b:E N}{n m l g:V}(L:Z b=n+1)(P:Z a=n+m)(u:I b n 0≠0)(Q:Ht l (lx a))(T:Ht g (lx b)):∀d,d<=m->
  ∃f:Y,f≠0/\aA f<=l*(2*g)^d/\yl (l*(2*g)^d) f (lx (dA (I b n 0)⁻¹ a b n m d).1)/\yl (l*(2*g)^d) f (lx (dA (I b n 0)⁻¹ a b n m d).2)
 |0,_=>by let ⟨f,W,h2,h3⟩:=Q;rw[oC,oW];refine⟨f,W,h2,λi=>⟨0,bf _,?_⟩,h3⟩;show(f:N)*I (bl m (0:N)) i 0=_;rw[JJ,dY];rfl
 |d+1,S=>by
  let ⟨f,d1,d2,d3,d4⟩:=aeA L P u Q T d G;let ⟨v,c,A,K⟩:=T;let ⟨β,B,p⟩:=K n;let ⟨_,q0,_⟩:=Vv L P u d G;let ⟨l1,l2⟩:=Ai (I b n 0)⁻¹ a b n m d;have C:β≠0:=λe=>by
   subst e;rcases zX.1 (p.trans OZ)with e|e
   .exact Ao c e
   .exact u e
  have o:(β:N)*(I b n 0)⁻¹ =(v:N):=by have p:(v:N)*I b n 0=(β:N):=p;rw[<-p];grind
  rw[dA,fQ,<-wh];generalize dA (I b n 0)⁻¹ a b n m d=x at*;generalize l*(2*g)^d=X at*;let ⟨F,r⟩:=x;simp only at d3 d4 q0 l1 l2⊢;let ⟨t,t1,s⟩:=d4<|m-1-d+n;have s:(f:N)*I r (m-1-d+n) 0=(t:N):=s;have h:X*g<=X*(2*g):=jk X G;have J:X*(2*g)=X*g+X*g:=by rw[Nat.two_mul,zO]
  refine⟨f*β,z6 d1 C,b6 (qW d2 B) h,λi=>?_,λi=>?_⟩
  .rw[fj,CO i _ G];by_cases e:m-1-d=i
   .rw[q e];refine⟨t*v,b6 (qW t1 A) h,?_⟩;rw[fT,fT,<-s,<-o];grind
   .rw[y e];let ⟨z,H,k⟩:=d3 i;have k:(f:N)*I F i 0=(z:N):=k;refine⟨z*β,b6 (qW H B) h,?_⟩;rw[fT,fT,<-k];grind
  .rw[JN _ G,eo,dZ,mL];let ⟨z,H,k⟩:=d4 i;have U:=qW H B;by_cases e:m-1-d<=i
   .rw[q e];let ⟨w,O,R⟩:=K<|i-(m-1-d);have e2:=qW t1 O;refine⟨z*β-t*w,G,?_⟩;rw[Og,fT,fT,fT,<-k,<-R,<-s,<-o];grind
   .rw[y e];refine⟨z*β,G,?_⟩;rw[fT,fT,<-k];grind
def yl.take{b}{d}{a}(h:yl b d (lx a)) n:yl b d (lx<|M n a):=λi=>by
 rw[fj,F1];split
 .exact h i
 .exact⟨0,bf _,dY _⟩
def JQ{a b}{t u}(p:bU b)(f:b≠[])(k:Ht (2^t) (lx a))(s:Ht (2^u) (lx b)):Ht (2^(t+(u+1)*(a.length+1-b.length))) (lx<|jr a b)/\Ht (2^(t+(u+1)*(a.length+1-b.length))) (lx<|fK a b)/\
  (b.length<=a.length->∀d,d<=a.length+1-b.length->Ht (2^(t+(u+1)*(a.length+1-b.length))) (lx (dA (b.getD (b.length-1) 0)⁻¹ a b (b.length-1) (a.length+1-b.length) d).2)):=by
 have v:=cR.2 f
 unfold jr fK
 by_cases h:a.length<b.length
 .rw[q h,q h];refine⟨Ht.zero<|km D,k.le<|eZ D<|Nat.le_add_right _ _,λw=>absurd h G⟩
 .rw[y h,y h,r9,r9];have g:=aeA (a:=a) (b:=b) (n:=b.length-1) (m:=a.length+1-b.length) G G (p.ne f) k s;have l:∀d,2^t*(2*2^u)^d=2^(t+(u+1)*d):=λd=>by rw[show 2*2^u=2^(u+1)by rw[fQ,hJ],<-Cj,<-ku]
  let ⟨i,d1,d2,d3,d4⟩:=g _<|aT _;rw[l]at d2 d3 d4;refine⟨⟨i,d1,d2,d3⟩,⟨i,d1,d2,d4.take _⟩,λ_ d o=>?_⟩;let ⟨i,d1,d2,d3,d4⟩:=g d o;rw[l]at d2 d3 d4;exact Ht.le ⟨i,d1,d2,d4⟩<|eZ D<|VA (jk _ o) _
def aeB{a}{d}(h:bU a)(k:Ht d (lx a)):Ht d (lx<|eO a):=by
 by_cases b:a=[]
 .subst b;rw[O7];exact k
 .rw[Al b];exact k.aqn (k:=Z a-1)<|h.ne b
def Pb n{k}(h:k<=n):2^k<=2^n:=eZ D h
def nt{t s}(h:t<32*s):2^t<4294967296^s:=by rw[(D:(4294967296:V)=2^32),<-Cj];exact US D h
def three{d}:1<=d->d+2<=3^d:=by
 intro h;induction d with
 |zero=>omega
 |succ d a=>
  by_cases e:d=0
  .subst e;decide
  .have:=a G;rw[fQ];omega
def Pc{a b}(d:b≠[]):Z (eO<|fK a b)<Z b\/eO (fK a b)=[]:=by
 by_cases h:fK a b=[]
 .right;rw[h,O7]
 .left;have:=Ak (a:=a) d;unfold eO;rw[y h];refine wg (F0 _) ?_;rw[vd,cT];exact this
def aeC{s:V}:∀(k t:V)(a b:E N),bU a->bU b->Z b<k->(b=[]\/Z b<Z a)->Z a<=500->Ht (2^t) (lx a)->Ht (2^t) (lx b)->(t+1)*3^Z a<=32*s->
  Aj s k a b/\(∀i,QS s (I (jL k a b) i 0))/\Z (jL k a b)<=500
 |0,_,_,_,_,_,h,_,_,_,_,_=>by omega
 |k+1,t,a,b,u,l,H,f,la,hA,m,L=>by
  have v:0<3^Z a:=km D;have n:t<32*s:=by have:=jk (t+1) (show 1<=3^Z a from v);omega
  rw[Aj,jL];split
  .rename_i e;exact⟨.inl e,λi=>hA.qs (nt n) i,la⟩
  .rename_i e;have f:=f.resolve_left e;have K:=cR.2 e;let ⟨q1,o,w⟩:=JQ l e hA m;have x:t+(t+1)*(Z a+1-Z b)+1=(t+1)*(Z a-Z b+2):=by rw[(G:Z a+1-Z b=Z a-Z b+1),(G:Z a-Z b+2=Z a-Z b+1+1),zO (t+1) (Z a-Z b+1) 1];omega
   have P:(t+1)*(Z a-Z b+2)*3^Z b<=(t+1)*3^Z a:=by have:=three (d:=Z a-Z b) G;rw[wh];refine jk _ ?_;refine b6 (et _ this) ?_;rw[<-ku,(G:Z a-Z b+Z b=Z a)];exact aT _
   have p:=yk (b:=b) u;have B:0<3^Z b:=km D;have g:t+(t+1)*(Z a+1-Z b)<32*s:=by have:=jk ((t+1)*(Z a-Z b+2)) (show 1<=3^Z b from B);omega
   let ⟨i1,i2,i3⟩:=aeC (s:=s) k (t+(t+1)*(Z a+1-Z b)) b (eO<|fK a b) l (ve _) (by rcases Pc (a:=a) e with h|h;omega;rw[h,sH];omega) ((Pc (a:=a) e).symm) G
    (m.le<|eZ D<|Nat.le_add_right _ _) (aeB p o) (by rw[x];omega)
   refine⟨.inr ⟨⟨la,G,l.ne e,λi=>m.qs (nt n) i,λj C i=>(w G j C).qs (nt g) i,λh=>p.ne h,λi=>o.qs (nt g) i⟩,i1⟩,i2,i3⟩
end Rx
open Rx
noncomputable def oc(L:E (Rx×V)):V->V->E (Rx×Y)
 |0,_=>[]
 |k+1,n=>(if 1<sz (pF (kP n) L)then[(pF (kP n) L,(n:Y))]else[])++oc L k (n+1)
def VB{L:E (Rx×V)}:∀(k:V){n:V},(∀x∈L,x.2<n)->oc L k n=[]
 |0,_,_=>rfl
 |k+1,n,h=>by
  have b:pF (kP n) L=1:=N9 λx a=>y (by have:=h x a;omega)
  rw[oc,b,rZ,y G,VB k (λx a=>by have:=h x a;omega),ik]
def VC{a:Rx}(h:2<=sz a):∀n,n+1<=sz (pk a n)
 |0=>by rw[show pk a 0=1 from J,rZ];omega
 |n+1=>by
  have b:a≠0:=λe=>by rw[e,kv]at h;omega
  have d:=VC h n;have f:pk a n≠0:=λe=>by rw[e,kv]at d;omega
  have:=ef f b;rw[pk];omega
def aeD{c:V->V}:∀{L:E (Rx×V)}{x:Rx×V},x∈L->pk x.1 (c x.2)∣pF c L
 |a::L,x,h=>by
  rw[pF];rcases bZ.1 h with rfl|h
  .exact dvd_mul_right _ _
  .exact dQ (aeD h) _
def VD{L}(h:FL L){x}(a:x∈L):x.2<sz (pF id L):=by have b:=jK (aeD (c:=id) a) (wD h.mo).ne;have d:=VC (h.gH x a).1 x.2;have f:sz (pk x.1 x.2)<=sz (pF id L):=b;omega
end Go.El
