/- Own work; no condition. -/
import Derived.Test.YtceihkmakfdcnaaGreatI11
import Derived.Test.YtceihkmakfdcnaaGreatI9
import Derived.Test.YtceihkmakfdcnaaGreatI10
import Derived.Test.YtceihkmakfdcnaaGreatI7
set_option linter.all false
set_option maxHeartbeats 16000000
set_option maxRecDepth 100000
noncomputable section
open Bool renaming false->ak
open Classical renaming choose->zC
open Go.El renaming rr->e,cS->S,xe->F,re->O,bA->h,cI->y,rb->w
open Go.Proofs.Tryz renaming prog->r
open Int renaming toNat->ah,natAbs->aD,natAbs_mul_self'->atO
open List renaming getD->I,length->Z,range->cy,take->c
open List.Pairwise renaming nil->LD
open Rat renaming divInt->kC
open _root_ renaming Rat->U,List->E,Int->V,Nat->G
namespace Go.El
open Go Go.Proofs
def gn(a:U):E U:=gH [a]
def XL a:aq r 44 [aQ a] (S .q<|gn a):=by refine aS Tryz.func44 ?_;exact e J<|w<|rl .q [_] J J (rc J J (D6 [a] (by rw[oV];omega))<|O J<|di J)
def gW(a b:E U):E U:=kZ a<|fw ((-1:V):U) b
def BJ a b i:I (gW a b) i 0=I a i 0-I b i 0:=by rw[gW,QT,wO,show(((-1:V)):U)= -1 from J];grind
def asR{k}a b(m:Z a<=1000)(f:Z b<=1000)(n:∀i,QS k (I a i 0))(g:∀i,QS k (I b i 0))(l:1<=k)(v:k<=200000000000):aq r 117 [S .q a,S .q b] (S .q<|gW a b):=by
 have p:QS k (((-1:V)):U):=⟨(aK.one (a:= -1) o).le l,(aK.one (a:=1) o).le l⟩;have s:=XG (((-1:V)):U) b f p g Y;have t:∀i,QS k (I (fw ((-1:V):U) b) i 0):=λi=>by rw[wO,show(((-1:V)):U)*I b i 0= -(I b i 0)by rw[show(((-1:V)):U)= -1 from J];grind];exact(g i).neg
 have u:Z (fw ((-1:V):U) b)<=1000:=bZ (Hu _) (by simp;exact f);have d:=QR a _ m u n t Y;refine aS Tryz.func117 ?_;exact e J<|w<|rc J J (y6 (-1) o o)<|rc J J s<|rc J J d<|O J<|di J
def QV(a:E U)(b:a≠[])(d:Z a<=1000):aq r 83 [S .q a] (aQ<|I a (Z a-1) 0):=by have f:=cR.2 b;refine aS Tryz.func83 ?_;refine e J<|e J (hp:=aH)<|cd J ?_;rw[(Y:Z a-1=ah ((Z a:V)-1))];rfl
def asS{k}a(i:a≠0)(f:QS k a)(l:k<=500000000000):aq r 82 [aQ a] (.t [(true,av .q a⁻¹),(ak,[.I .i64 0])]):=by have b:kC (a.den:V) a.num=a⁻¹ :=(Rat.inv_def a).symm;have g:=Xz (a.den:V) a.num (λb=>i<|BD b) (f.d.sm Y)<|f.n.sm Y;rw[b]at g;refine aS Tryz.func82 ?_;exact e J<|bL J J g J<|di J
def asT{a}(b:a≠[]):eZ a=fw (I a (Z a-1) 0)⁻¹ a:=by refine Rx.sf (Rx.uT a) (Rx.jF _) ?_;rw[Rx.BH b,BI]
def XM{k}a(g:Z a<=1000)(f:∀i,QS k (I a i 0))(l:a≠[]->I a (Z a-1) 0≠0)(s:k<=200000000000):aq r 29 [S .q a] (S .q<|eZ a):=by
 refine aS Tryz.func29 ?_;refine e J<|h<|e J<|F J (λb=>?_)<|λb=>aG ?_
 .have b:(Z a:V)=0:=eS b;rw[gA (by omega:Z a=0)];exact e J<|bX<|da<|iZ cp J<|bq.nil _
 .have d:a≠[]:=λn=>by subst n;cases b
  have p:=(f<|Z a-1).inv<|l d;have m:=XG (I a (Z a-1) 0)⁻¹ a g p f Y;rw[<-asT d]at m;exact w<|rc J J (QV a d g)<|rc J J (asS _ (l d) (f _) Y)<|O J<|bL J J m J<|di J
def asU{k}a(u:Z a<=1000)(m:∀i,QS k (I a i 0))(g:1<=k)(v:k<=200000000000):aq r 132 [S .q a] (S .q<|uS a):=by
 refine aS Tryz.func132 ?_;obtain⟨b,l⟩:∃b:G->U,b=λi=>(((i+1:G):V):U)*I a (i+1) 0:=⟨_,J⟩
 have n:uS a=(cy<|Z a-1).map b:=by rw[l];rfl
 rw[n];refine e J<|w<|ij .q [] J J (O J<|h<|e J ?_);refine aA<|bx (α:=G) (λi=>⟨[(0,S .q a),(3,.c<|.X 1000000),(4,y ((i+1:G):V))],[(1000000,.vec 44 .q<|(cy i).map b)],3,[]⟩) (λi=>i<=Z a-1) (λi=>Z a-i) 0 (bm _) aY ?_;intro i x;have p:Z ((cy i).map b)=i:=ax;refine h<|e J<|F J (λd=>?_)<|λd=>?_
 .have d:i+1<Z a:=by have d:((i+1:G):V)<(Z a:V):=aX d;omega
  have s:QS k ((((i+1:G):V)):U):=⟨(aK.one (a:=((i+1:G):V)) Y).le g,(aK.one (a:=1) o).le g⟩;have f:=Lt ((((i+1:G):V)):U) (I a (ah<|((i+1:G):V)) 0) s (m _) Y;have t:((((i+1:G):V)):U)*I a (ah<|((i+1:G):V)) 0=b i:=by rw[l,cx]
  rw[t]at f;refine aG<|h<|aA<|cL ?_;refine rc J J (y6 ((i+1:G):V) Y Y) ?_;refine rc J J f ?_ (hp:=aH);refine rl .q [b i] J J (ra J J J J J J J J J ?_ ?_<|O J ?_)
  .show(Z ((cy i).map b)+1+(Z ((cy i).map b)+1)/4+192)*64<=_;omega
  .show(Z ((cy i).map b)+1)*4<=_;omega
  refine bU<|rt J (hp:=aH)<|a6 (i+1) (Y:i+1<=Z a-1) r6<|Wk.trans (wk (st':=⟨[(0,S .q a),(3,.c<|.X 4009000),(4,y ((i+1+1:G):V))],[(4009000,.vec 44 .q<|(cy<|i+1).map b)],20,[]⟩) (bP J) ⟨bE J ?_,M⟩)<|Wk.trans (iw 1000000 4009000 J J J) aY;rw[XF]
 .have d:i=Z a-1:=by have d:¬((i+1:G):V)<(Z a:V):=bh d;omega
  subst d;exact oc<|rH<|oS<|oe<|aR<|dm 1000000 J J J<|e J<|bX<|atR J
open Rx
def XN a i:I (gn a) i 0=if i=0 then a else 0:=by
 rw[gn,D7];cases i with
 |zero=>rfl
 |succ i=>simp
def QW a:I (mL a) 0 0=0:=by rw[agK];rfl
def QX a i:I (mL a) (i+1) 0=I a i 0:=by rw[agK];rfl
structure tK(a b:E U)(n m c:G)(q r:E U):Prop where
 qc:bM q
 rc:bM r
 qg:∀i,q.getD i 0=if i<c-n then(dR (b.getD n 0)⁻¹ a b n m (c-n)).1.getD (a.length-c+i) 0 else 0
 rg:∀i,r.getD i 0=if i<min c n then(dR (b.getD n 0)⁻¹ a b n m (c-n)).2.getD (a.length-c+i) 0 else 0
def Hy{a}{n}(b:bM a)(f:∀i,n<=i->I a i 0=0):Z a<=n:=eR λd=>by
 rcases b with b|b
 .rw[b]at d;exact d<|bm _
 .exact b<|f _ Y
def asV{a:E U}{n}(b:I a n 0≠0):n<Z a:=eR λd=>b<|gk a Y
def agQ a b:bM (kZ a b):=jF _
def agR{inv:U}{a b:E U}{n m:G}(f:Z a=n+m)(g:Z b=n+1):∀d,d<=m->∀i,i<m-d->(dR inv a b n m d).2.getD i 0=I a i 0
 |0,_,_,_=>rfl
 |d+1,k,i,l=>by rw[dR];show I (kD _ _ b<|m-1-d) i 0=_;rw[kD,wK (by rw[(BF inv a b n m d).2];omega),j Y];exact agR f g d Y i Y
def XO(a:E U)(x:U):∀i,I (kZ (mL a)<|gn x) i 0=if i=0 then x else I a (i-1) 0
 |0=>by rw[QT,QW,XN,q J,q J,tz]
 |i+1=>by rw[QT,QX,XN,j Y,j Y,oC];rfl
def tK.start a b n m:tK a b n m 0 [] []:=
 ⟨wC,wC,λi=>by rw[j Y];rfl,λi=>by rw[j Y];rfl⟩
section
variable{a b q r:E U}{n m c:G}
def tK.r1(f:tK a b n m c q r)(g:Z b=n+1)(p:m=Z a-n)(s:c<Z a) i:
  I (kZ (mL r)<|gn<|I a (Z a-1-c) 0) i 0=if i<min (c+1) (n+1)then(dR (I b n 0)⁻¹ a b n m (c-n)).2.getD (Z a-(c+1)+i) 0 else 0:=by
 rw[XO]
 have k:(dR (I b n 0)⁻¹ a b n m (c-n)).2.getD (Z a-(c+1)) 0=I a (Z a-1-c) 0:=by
  rw[(Y:Z a-(c+1)=Z a-1-c)];by_cases l:c<n
  .rw[(Y:c-n=0)];rfl
  .exact agR Y g _ Y _ Y
 cases i with
 |zero=>rw[gT J,gT Y,jZ,k]
 |succ i=>
  rw[j Y,eD,f.rg]
  by_cases d:i<min c n
  .rw[gT d,gT Y,(Y:Z a-(c+1)+(i+1)=Z a-c+i)]
  .rw[j d,j Y]
def tK.step(x:tK a b n m c q r)(N:Z b=n+1)(P:m=Z a-n)(Q:I b n 0≠0)(T:c<Z a){s}(D:s=kZ (mL r) (gn<|I a (Z a-1-c) 0)):
  (Z s=n+1->tK a b n m (c+1) (kZ (mL q)<|gn<|I s n 0/I b n 0) (gW s<|fw (I s n 0/I b n 0) b))/\(Z s≠n+1->tK a b n m (c+1) (mL q) s)/\Z s<=n+1:=by
 have g:=x.r1 N P T
 rw[<-D]at g
 have k:bM s:=by rw[D];exact agQ _ _
 have K:Z s<=min (c+1) (n+1):=Hy k λi l=>by rw[g,j Y]
 by_cases W:c<n
 .refine⟨λe=>Y,λ_=>⟨jF _,k,λi=>?_,λi=>?_⟩,Y⟩
  .rw[j Y];cases i with
   |zero=>exact QW q
   |succ i=>rw[QX,x.qg,j Y]
  .rw[g,(Y:c+1-n=c-n)];by_cases l:i<c+1
   .rw[gT Y,gT Y]
   .rw[j Y,j Y]
 obtain⟨d,w⟩:∃d,c=n+d:=⟨c-n,Y⟩
 have X:c-n=d:=Y
 have p:c+1-n=d+1:=Y
 have u:=x.qg
 rw[X]at g u
 have f:=BF (I b n 0)⁻¹ a b n m d
 have z:dR (I b n 0)⁻¹ a b n m (d+1)=((dR (I b n 0)⁻¹ a b n m d).1.set (m-1-d)<|(dR (I b n 0)⁻¹ a b n m d).2.getD (m-1-d+n) 0*(I b n 0)⁻¹,kD (dR (I b n 0)⁻¹ a b n m d).2 (-((dR (I b n 0)⁻¹ a b n m d).2.getD (m-1-d+n) 0*(I b n 0)⁻¹)) b<|m-1-d):=rfl
 have v:I s n 0=(dR (I b n 0)⁻¹ a b n m d).2.getD (m-1-d+n) 0:=by rw[g,gT Y,(Y:Z a-(c+1)+n=m-1-d+n)]
 rw[<-v,<-tE]at z
 generalize ht:I s n 0/I b n 0=t at*
 have A:t*I b n 0=I s n 0:=by rw[<-ht,Rat.div_mul_cancel Q]
 have hQ:∀i,I (kZ (mL q)<|gn t) i 0=if i<c+1-n then(dR (I b n 0)⁻¹ a b n m (c+1-n)).1.getD (Z a-(c+1)+i) 0 else 0:=λi=>by
  rw[XO,p,z];show _=if i<d+1 then I ((dR (I b n 0)⁻¹ a b n m d).1.set (m-1-d) t) (Z a-(c+1)+i) 0 else 0
  rw[D1 _ _ (by rw[f.1];omega)];cases i with
  |zero=>rw[gT J,gT Y,gT Y]
  |succ i=>
   rw[j Y,eD,u]
   by_cases l:i<d
   .rw[gT l,gT Y,j Y,(Y:Z a-(c+1)+(i+1)=Z a-c+i)]
   .rw[j l,j Y]
 have C:∀i,I (gW s<|fw t b) i 0=if i<min (c+1) n then(dR (I b n 0)⁻¹ a b n m (c+1-n)).2.getD (Z a-(c+1)+i) 0 else 0:=λi=>by
  rw[BJ,wO,p,z,g];show _=if i<min (c+1) n then I (kD (dR (I b n 0)⁻¹ a b n m d).2 (-t) b<|m-1-d) (Z a-(c+1)+i) 0 else 0
  by_cases l:i<n
  .rw[gT Y,gT Y,kD,wK (by rw[f.2];omega),gT Y,(Y:Z a-(c+1)+i-(m-1-d)=i)];grind
  .rw[j (by omega:¬i<min (c+1) n)];by_cases e:i=n
   .subst e;rw[gT Y,A,g,gT Y];grind
   .rw[j Y,gk b Y];grind
 refine⟨λ_=>⟨agQ _ _,jF _,hQ,C⟩,λo=>?_,Y⟩
 have B:I s n 0=0:=eR λB=>by have:=asV B;omega
 have H:t=0:=by rw[<-ht,B,tE,ni]
 refine⟨jF _,k,λi=>?_,λi=>?_⟩
 .rw[<-hQ,XO,H];cases i with
  |zero=>rw[QW,gT J]
  |succ i=>rw[QX,j Y];rfl
 .rw[<-C,BJ,wO,H];grind
end
section
variable{a b q r:E U}{n m c:G}
def asW(g:tK a b n m (Z a) q r)(p:Z b=n+1)(l:m=Z a-n):q=jV a b:=by
 have d:Z b-1=n:=Y;have f:Z a+1-Z b=m:=Y;refine sf g.qc (QM a b)<|ext λi=>?_;rw[eG,eG,g.qg,jV,d,f,<-l];by_cases k:i<m
 .rw[gT k,j Y,D7,jA,fc]
 .rw[j k];split
  .rfl
  .rw[D7,gk _<|by rw[(BF ..).1];omega]
def asX(k:tK a b n m (Z a) q r)(s:Z b=n+1)(l:m=Z a-n)(p:bM a):r=fX a b:=by
 have d:Z b-1=n:=Y;have f:Z a+1-Z b=m:=Y;refine sf k.rc (wM p)<|ext λi=>?_;rw[eG,eG,k.rg,fX,d,f,<-l,jA,fc];by_cases hl:Z a<Z b
 .rw[gT hl];by_cases g:i<Z a
  .rw[gT Y,(Y:m=0)];rfl
  .rw[j Y,gk a Y]
 .rw[j hl,D7,Hv];by_cases g:i<n
  .rw[gT Y,gT g]
  .rw[j Y,j g]
def agS{s:G}(l:1<=s){inv:U}(f:QS s inv)(g:∀d,d<=m->∀i,QS s ((dR inv a b n m d).2.getD i 0)):∀d,d<=m->∀i,QS (2*s) ((dR inv a b n m d).1.getD i 0)
 |0,_,i=>by
  rw[dR,aO,nc];have:QS (2*s) 0:=QS.zero Y;by_cases k:i<m
  .rw[gT k];exact this
  .rw[j k];exact this
 |d+1,p,i=>by
  rw[dR];show QS _ (I ((dR inv a b n m d).1.set _ _) i 0);rw[D1 _ _ (by rw[(BF ..).1];omega)];split
  .exact(g d Y _).mul f
  .exact agS l f g d Y i
def asY(d:bM a)(f:a≠[]):I a (Z a-1) 0≠0:=d.resolve_left f
end
def agT{s}(P:1<=s)(hs:s<=50000000000){a b}(hac:bM a)(Q:b≠[])(H:D5 s a b):aq r 121 [S .q a,S .q b] (.t [(ak,[.S .q (jV a b)]),(ak,[.S .q (fX a b)]),(ak,[.I .i64 0])]):=by
 have IS:=cR.2 Q;obtain⟨n,K⟩:∃n,Z b=n+1:=⟨Z b-1,Y⟩;obtain⟨m,hm⟩:∃m,m=Z a-n:=⟨_,J⟩;have z:=H.bn;have N:=H.qS;rw[(Y:Z b-1=n)]at z N;rw[(Y:Z a+1-Z b=m)]at N;have la:=H.la;have lb:=H.lb;have qb:=H.qb;have qa:∀i,QS s (I a i 0):=N 0<|bm _;have T:QS s (I b n 0)⁻¹ :=(qb n).inv z;have hQ:=agS P T N;have W:∀{k:G},1<=k->QS k (0:U):=λd=>QS.zero d
 have key:∀{c:G}{q u:E U},c<=Z a->tK a b n m c q u->(∀i,QS (2*s) (I q i 0))/\(∀i,QS s (I u i 0))/\Z q<=500/\Z u<=500:=λ{c q u} hc f=>by
  refine⟨λi=>?_,λi=>?_,?_,?_⟩
  .rw[f.qg];split
   .exact hQ _ Y _
   .exact W Y
  .rw[f.rg];split
   .exact N _ Y _
   .exact W P
  .have:=Hy (n:=c-n) f.qc λi hi=>by rw[f.qg,j Y]
   omega
  .have:=Hy (n:=min c n) f.rc λi hi=>by rw[f.rg,j Y]
   omega
 have X:∀{k:G}{l:E U},1<=k->(∀i,QS k (I l i 0))->∀i,QS k (I (mL l) i 0):=λ{k l} hk d i=>by
  cases i with
  |zero=>rw[QW];exact W hk
  |succ i=>rw[QX];exact d i
 have o:∀{k:G}{x:U},1<=k->QS k x->∀i,QS k (I (gn x) i 0):=λ{k x} hk d i=>by
  rw[XN];split
  .exact d
  .exact W hk
 have L:∀l:E U,Z (mL l)<=Z l+1:=λl=>bZ (Hu _) QQ
 have R:∀x:U,Z (gn x)<=1:=λx=>bZ (Hu _) (by rw[oV];omega)
 refine aS Tryz.func121 ?_;refine e J<|h<|e J<|F J (λd=>?_)<|λd=>aG ?_
 .have d:(Z b:V)=0:=eS d;exact aJ d Y
 refine w<|rl .q [] J J (O J<|w<|rl .q [] J J (O J<|h<|e J ?_));refine aA<|bx (α:=G×E U×E U) (λv=>⟨[(0,S .q a),(1,S .q b),(7,S .q v.2.1),(8,S .q v.2.2),(9,y<|(Z a:V)-1-v.1)],[],20,[]⟩) (λv=>v.1<=Z a/\tK a b n m v.1 v.2.1 v.2.2) (λv=>Z a-v.1) (0,[],[]) ⟨bm _,tK.start a b n m⟩ (wk ⟨sR J,sR J,sR J,sR J,sE J ?_,M⟩ M) ?_
 .exact bl y (Y:(Z a:V)-1=(Z a:V)-1-(0:G))
 rintro⟨c,q,u⟩ ⟨c1,f⟩;simp only at c1 f;let ⟨q1,r1,q2,r2⟩:=key c1 f;refine h<|e J<|F J (λd=>?_)<|λd=>?_
 .have d:c<Z a:=by have d:(Z a:V)-1-c>=0:=aX d;omega
  have ei:ah ((Z a:V)-1-c)=Z a-1-c:=Y;let ⟨S1,S2,S3⟩:=f.step K hm z d J;have A:∀i,QS s (I (kZ (mL u)<|gn<|I a (Z a-1-c) 0) i 0):=λi=>by
   rw[f.r1 K hm d];split
   .exact N _ Y _
   .exact W P
  have B:=XL<|I a (ah<|(Z a:V)-1-c) 0;have C:=QR (mL u) (gn<|I a (ah<|(Z a:V)-1-c) 0) (by have:=L u;omega) (by have:=R<|I a (ah<|(Z a:V)-1-c) 0;omega) (X P r1) (o P<|qa _) Y;rw[ei]at B C;generalize hsE:kZ (mL u) (gn<|I a (Z a-1-c) 0)=g at*;rw[<-ei]at B C;refine aG<|h<|aA<|w<|rc J J (agI u Y)<|rc J J B (rc J J C<|O J ?_) (hp:=aH);refine bL J J (agI q Y) J<|e J<|F J (λD=>?_)<|λD=>dk ?_
  .have D:(Z g:V)=(Z b:V):=eS D;have p:Z g=n+1:=Y;have JY:g≠[]:=λcJ=>by rw[cJ]at p;cases p
   have hdv:=asG (I g (Z g-1) 0) (I b (Z b-1) 0) (λcJ=>H.bn<|BD cJ) (A _) (qb _) Y;rw[p,K,eD]at hdv;have QY:=QV g JY Y;have XP:=QV b Q Y;rw[p,eD]at QY;rw[K,eD]at XP;have hD:=S1 p;have ht:QS (2*s) (I g n 0/I b n 0):=by rw[tE];exact(A n).mul T
   generalize I g n 0/I b n 0=t at*;have QZ:=XG t b Y ht (λi=>(qb i).le Y) Y;have JR:=asR (k:=4*s) g (fw t b) Y (bZ (Hu _) b6) (λi=>(A i).le Y) (λi=>by rw[wO];exact(ht.mul<|(qb i).le Y).le Y) Y Y;have Q1:=QR (mL q) (gn t) (by have:=L q;omega) (by have:=R t;omega) (X Y q1) (o Y ht) Y;refine w<|rc J J QY<|rc J J XP<|rc J J hdv<|O J ?_;refine w<|rc J J QZ<|rc J J JR<|O J ?_;refine cL<|rc J J (XL t)<|rc J J Q1<|O J ?_;refine bU<|rt J (hp:=aH)<|a6 (c+1,kZ (mL q)<|gn t,gW g<|fw t b) ⟨d,hD⟩ (Y:Z a-(c+1)<Z a-c)<|wk ⟨sR J,sR J,sR J,sR J,sE J ?_,M⟩ M;exact bl y (Y:(Z a:V)-1-c-1=(Z a:V)-1-(c+1:G))
  .have D:Z g≠n+1:=λcJ=>by have D:(Z g:V)≠(Z b:V):=pa D;omega
   refine bU<|rt J (hp:=aH)<|a6 (c+1,mL q,g) ⟨d,S2 D⟩ (Y:Z a-(c+1)<Z a-c)<|wk ⟨sR J,sR J,sR J,sR J,sE J ?_,M⟩ M;exact bl y (Y:(Z a:V)-1-c-1=(Z a:V)-1-(c+1:G))
 .have d:c=Z a:=by have d:¬(Z a:V)-1-c>=0:=bh d;omega
  subst d;rw[asW f K hm,asX f K hm hac];exact bD<|aR<|e J<|di J
def as0{s}(g:1<=s)(i:s<=50000000000){a b}(d:bM a)(f:b≠[])(k:D5 s a b):aq r 116 [S .q a,S .q b] (S .q<|jV a b):=by refine aS Tryz.func116 ?_;exact e J<|bL J J (agT g i d f k) J<|e J<|di J
def as1{s}(g:1<=s)(i:s<=50000000000){a b}(d:bM a)(f:b≠[])(k:D5 s a b):aq r 66 [S .q a,S .q b] (S .q<|fX a b):=by refine aS Tryz.func66 ?_;exact e J<|bL J J (agT g i d f k) J<|e J<|di J
def as2{s}(z:1<=s)(A:s<=50000000000) k a b(B:bM a)(D:bM b)(H:BG s k a b)(N:Z (kY k a b)<=1000)(P:∀i,QS s (I (kY k a b) i 0)):aq r 131 [S .q a,S .q b] (S .q<|eZ<|kY k a b):=by
 refine aS Tryz.func131 ?_;refine e J<|h<|aA<|bx (α:=G×E U×E U) (λx=>⟨[(0,S .q x.2.1),(1,S .q x.2.2)],[],2,[]⟩) (λx=>BG s x.1 x.2.1 x.2.2/\kY x.1 x.2.1 x.2.2=kY k a b/\bM x.2.1/\bM x.2.2) (λx=>x.1) (k,a,b) ⟨H,J,B,D⟩ aY ?_;rintro⟨m,f,g⟩ ⟨h2,d,t,n⟩;simp only at h2 d t n;refine h<|e J<|F J (λl=>?_)<|λl=>?_
 .have p:g≠[]:=λC=>by subst C;cases l
  clear l;cases m with
  |zero=>exact aJ h2 p
  |succ m=>
   rw[BG]at h2
   rcases h2 with h2|⟨h2,K⟩
   .exact aJ h2 p
   rw[kY,j p]at d
   have u:=as1 z A t p h2
   have Q:=xZ (a:=f) p
   have W:=h2.lb
   have v:=XM (fX f g) Y h2.qr h2.rn Y
   refine dk<|aR<|aA<|w<|rc J J u<|rc J J v<|O J<|e J<|rt J<|fT<|a6 (m,g,eZ<|fX f g) ⟨K,d,n,uT _⟩ (dO m) aY
 .have l:g=[]:=by have l:¬(Z g:V)>0:=bh l;exact gA Y
  subst l;have d:f=kY k a b:=by
   cases m with
   |zero=>exact d
   |succ m=>rwa[kY,q J]at d
  rw[d]at t⊢;exact oc<|rH<|oS<|oe<|aR<|w<|rc J J (XM _ N P (λT=>asY t T) Y)<|O J<|bX<|atR J
def Rx.Ht.mul{a N n}{A B}(g:Ht a A)(k:Ht N B)(Q:sz A<=n)(l:1<=n):Ht (n*(a*N)) (A*B):=by
 let ⟨D,b,h2,m⟩:=g;let ⟨E,p,s,x⟩:=k;refine⟨D*E,zz b p,bZ (tJ h2 s)<|PH _ l,λi=>?_⟩;rw[fV];have d:∀t,∃z:V,aD z<=min t n*(a*N)/\((D*E:V):U)*sq (λj=>A j*B (i-j)) t=(z:U):=by
  intro t;induction t with
  |zero=>exact⟨0,bm _,by rw[sq];exact dU _⟩
  |succ t C=>
   let ⟨y,H,f⟩:=C
   by_cases c:t<n
   .let ⟨u,u1,u2⟩:=m t;let ⟨v,v1,v2⟩:=x<|i-t;refine⟨y+u*v,?_,?_⟩
    .have T:=tJ u1 v1;rw[(Y:min (t+1) n=min t n+1),fZ,hY];omega
    .rw[sq,KH,f,KZ,fW,fW,<-u2,<-v2];grind
   .refine⟨y,by rw[(Y:min (t+1) n=min t n)];exact H,?_⟩;have:A t=0:=jT Y;rw[sq,this,ni,oC];exact f
 let ⟨z,K,P⟩:=d<|i+1;exact⟨z,bZ K<|eB _<|Nat.min_le_right _ _,P⟩
def Rx.Ht.neg{a}{A}(b:Ht a A):Ht a (-A):=by let ⟨D,d,h2,f⟩:=b;refine⟨D,d,h2,λi=>?_⟩;let ⟨z,k,g⟩:=f i;exact⟨-z,Y,by rw[Ko,zM,<-g];grind⟩
def Rx.Ht.add{a N}{A B}(b:Ht a A)(k:Ht N B):Ht (2*(a*N)) (A+B):=by have:=Ht.sub b k.neg;rwa[eY,Rx.neg_neg]at this
structure Pz(n t:G)(a:E U):Prop where
 can:bM a
 len:a.length<=n
 ht:Ht (2^t) (lx a)
def Pz.le{n m t u}{a}(b:Pz n t a)(d:n<=m)(f:t<=u):Pz m u a:=⟨b.can,bZ b.len d,b.ht.le<|eU o f⟩
def Pz.qs{n t s}{a}(b:Pz n t a)(d:t<32*s) i:QS s (I a i 0):=b.ht.qs (nZ d) i
def Pz.nil n t:Pz n t []:=⟨wC,bm _,by rw[mI];exact Ht.zero<|ko o⟩
def Lz t u v:2^v*(2^t*2^u)=2^(t+u+v):=by rw[<-kv,<-kv];congr 1;omega
def Pz.add{n m t u}{a b}(d:Pz n t a)(k:Pz m u b):Pz (max n m) (t+u+1) (kZ a b):=by
 refine⟨jF _,?_,?_⟩
 .have:=d.len;have:=k.len;refine bZ (wP _) ?_;rw[c7,qR];omega
 .rw[Lv,<-Lz];exact d.ht.add k.ht
def LA a b:lx (gW a b)=lx a-lx b:=ext λi=>by rw[nS];exact BJ a b i
def Pz.sub{n m t u}{a b}(d:Pz n t a)(k:Pz m u b):Pz (max n m) (t+u+1) (gW a b):=by
 refine⟨jF _,?_,?_⟩
 .have:=d.len;have:=k.len;refine bZ (wP _) ?_;rw[c7,qR];have e:=wP<|(cy<|Z b).map λi=>((-1:V):U)*I b i 0;rw[c7,qR]at e;show max (Z a) (Z<|fw _ b)<=_;have:Z (fw ((-1:V):U) b)<=Z b:=e;omega
 .rw[LA,<-Lz];exact d.ht.sub k.ht
def Pz.Hz{n t u}{a}{b}(d:Pz n t a)(k:Ht (2^u) (K b)):Pz n (t+u) (fw b a):=by
 refine⟨jF _,?_,?_⟩
 .have:=d.len;refine bZ (wP _) ?_;rw[c7,qR];omega
 .rw[BI,kv];exact d.ht.smul k
def ml(a b:E U):E U:=Hx a b<|Z a
def D8 a b:lx (ml a b)=lx a*lx b:=by rw[ml,agL a _ _<|aN _,jA,qx]
def BK a b:bM (ml a b):=asP a b<|Z a
def agV b:ml [] b=[]:=rfl
def agW a:ml a []=[]:=sf (BK _ _) wC (by rw[D8,mI,Rx.g8])
def agX{a b}(d:bM a)(f:bM b)(g:a≠[])(i:b≠[]):Z (ml a b)+1=Z a+Z b:=by have:=dV (Hw d g)<|Hw f i;rwa[<-D8,eJ<|BK a b,eJ d,eJ f]at this
def Q2{a b}(f:bM a)(g:bM b):Z (ml a b)<=Z a+Z b-1:=by
 by_cases a0:a=[]
 .subst a0;rw[agV];exact bm _
 .by_cases d:b=[]
  .subst d;rw[agW];exact bm _
  .have:=agX f g a0 d;omega
def Pz.mul{n m t u}{a b}(d:Pz n t a)(k:Pz m u b)(f:n<=16):Pz (n+m-1) (t+u+4) (ml a b):=by
 refine⟨BK a b,?_,?_⟩
 .have:=Q2 d.can k.can;have:=d.len;have:=k.len;omega
 .rw[D8,<-Lz];refine(d.ht.mul k.ht (n:=2^4) ?_ o);rw[eJ d.can];have:=d.len;omega
def Pz.rem{n m t u d}{a b}(f:Pz n t a)(k:Pz m u b)(g:b≠[])(i:Z a+1-Z b<=d):Pz m (t+(u+1)*d) (fX a b):=
 ⟨wM f.can,bZ (Di<|xZ g) k.len,(Lx k.can g f.ht k.ht).2.1.le<|eU o<|XH (ja _ i) _⟩
def Pz.euS{n m t u d s}{a b}(f:Pz n t a)(k:Pz m u b)(g:b≠[])(p:Z a+1-Z b<=d)(v:n<=500)(x:m<=500)(B:t+u+(u+1)*d<32*s):D5 s a b:=by
 have q:=Lx k.can g f.ht k.ht;have le:2^(t+(u+1)*(Z a+1-Z b))<=2^(t+(u+1)*d):=eU o<|XH (ja _ p) _;have l:t+(u+1)*d<32*s:=Y;refine⟨bZ f.len v,bZ k.len x,k.can.ne g,λi=>k.qs Y i,λj z i=>?_,λA=>(wM f.can).ne A,λi=>(q.2.1.le le).qs (nZ l) i⟩;by_cases hl:Z b<=Z a
 .exact((q.2.2 hl j z).le le).qs (nZ l) i
 .have:j=0:=by omega
  subst this;exact f.qs Y i
def as4{a b m}(d:bM a)(f:bM b)(g:bM m)(k:m≠[])(l:Z a<Z m)(n:Z b<Z m)(i:lx m∣lx a-lx b):a=b:=by refine sf d f<|Bo<|uJ i ?_;rw[eJ g];have:=Hd (lx a)<|lx b;rw[eJ d,eJ f]at this;omega
def agY{a m:E U}(b:bM m)(d:m≠[]):lx m∣lx (fX a m)-lx a:=by have h:=XD (a:=a) b d;refine oE ?_;rw[h,Rx.zm];exact jd _ _
def as5{a b m}(g:bM a)(i:bM b)(f:bM m)(d:m≠[])(k:Z b<Z m)(l:lx m∣lx a-lx b):fX a m=b:=
 as4 (wM g) i f d (xZ d) k (mH (agY f d) l)
abbrev U8:ET:= .int .u8
abbrev RW:ET:= .pr I8<|.pr I8 U8
def mj(k:V):V:=4611686018427387904+k
def BL(x:V×V×V):V:=if x.2.2%8=7 then x.1*mj x.2.2*mj x.2.2+x.2.2 else x.1
def p8(d:V):V:=if d=0 then 1 else d
def x5(x:V×V×V):V:=if x.2.2%8=6 then p8 x.2.1*mj x.2.2*mj x.2.2 else p8 x.2.1
def so(x:V×V×V):U:=kC (BL x)<|x5 x
def p'(x:V×V×V):Prop:=(-128<=x.1/\x.1<=127)/\(-128<=x.2.1/\x.2.1<=127)/\0<=x.2.2/\x.2.2<=255
def agZ d:p8 d≠0:=by unfold p8;split<;>omega
def ag0{x}(a:p' x):0<mj x.2.2/\mj x.2.2<4611686018427388160:=by unfold mj;have:=a.2.2;omega
def ag1{x}(a:p' x):x5 x≠0:=by
 unfold x5;split
 .have:=(ag0 a).1;exact zz (zz (agZ _) Y) Y
 .exact agZ _
def LB{x}(a:p' x):aK 2 (mj x.2.2):=by have:=ag0 a;unfold aK;omega
def XQ{x}(a:p' x):aK 1 (p8 x.2.1):=aK.one (by unfold p8;have:=a.2.1;split<;>omega)
def as6{x}(h:p' x):aK 6 (BL x):=by
 unfold BL;have b:aK 1 x.1:=aK.one DE;split
 .have d:=(b.mul<|LB h).mul<|LB h;have f:aK (1+2+2) x.2.2:=(aK.one (a:=x.2.2)<|by have:=h.2.2;omega).le o;exact d.add f
 .exact b.le o
def as7{x}(a:p' x):aK 6 (x5 x):=by
 unfold x5;split
 .exact((XQ a).mul<|LB a).mul (LB a)|>.le o
 .exact(XQ a).le o
def as8 x(l:p' x):aq r 38 [.a [.I .i8 x.1,.I .i8 x.2.1,.I .u8 x.2.2]] (aQ<|so x):=by
 refine aS Tryz.func38 ?_;have v:(if x.2.2%8=7 then x.1*mj x.2.2*mj x.2.2+x.2.2 else x.1)=BL x:=rfl;have A:(if x.2.2%8=6 then p8 x.2.1*mj x.2.2*mj x.2.2 else p8 x.2.1)=x5 x:=rfl;have g:=LB l;have m:=XQ l;have i:=QK (BL x) (x5 x) (ag1 l) ((as6 l).sm o)<|(as7 l).sm o;rw[show kC (BL x) (x5 x)=so x from J]at i;generalize BL x=n at*;generalize x5 x=d at*;generalize so x=L at*;obtain⟨N,D,k⟩:=x;let ⟨⟨M,R⟩,⟨d1,d2⟩,C,S⟩:=l;simp only at*;have p:=jO N Y Y;have s:=jO D Y Y;have t:aq r 84 [y (4611686018427387904+k)] (aZ<|mj k):=jO _ Y Y;have u:=jO k Y Y;have H:aK 1 N:=aK.one Y;have Q:aK 5 k:=(aK.one (a:=k) Y).le o;have T:=mb N (mj k) (H.sm o)<|g.sm o;have W:=mb (N*mj k) (mj k) ((H.mul g).sm o)<|g.sm o;have X:=yZ (N*mj k*mj k) k (((H.mul g).mul g).sm o)<|Q.sm o;have E:=mb (p8 D) (mj k) (m.sm o)<|g.sm o;have G:=mb (p8 D*mj k) (mj k) ((m.mul g).sm o)<|g.sm o;refine e J<|w<|rc J J p (rc J J s (O J ?_) (hp:=aH)) (hp:=aH);refine nP ⟨[(1,.c<|.P 0 0),(2,.c<|.P 1000 0),(3,.c<|.P 1008000 0),(4,.c<|.P 1009000 0)],[(0,.box 57 0 [.I .i8 N,.I .i8 D,.I .u8 k]),(1000,.box 44 0 [.B ak,.V<|.slice none 0 0,.B ak,.V<|.slice none 0 0]),(1008000,.box 42 0<|av .z N),(1009000,.box 42 0<|av .z<|p8 D)],10,[]⟩ ?_<|λf=>e J<|F J (λb=>?_)<|λb=>dk ?_;rotate_left
 .have b:D=0:=eS b;have K:p8 D=1:=by rw[b];rfl
  rw[K]at f;exact cL<|rc J J (jO 1 o o)<|O J<|fp f aY
 .have b:D≠0:=by have b:(D==0)=ak:=b;exact HA b
  have K:p8 D=D:=j b;rw[K]at f;exact fp f aY
 refine w<|rc J J t (O J ?_) (hp:=aH);refine nP ⟨[(1,.c<|.P 0 0),(2,.c<|.P 1000 0),(3,.c<|.P 1008000 0),(4,.c<|.P 1009000 0),(5,.c<|.P 10005000 0)],[(0,.box 57 0 [.I .i8 N,.I .i8 D,.I .u8 k]),(1000,.box 44 0 [.B ak,.V<|.slice none 0 0,.B ak,.V<|.slice none 0 0]),(1008000,.box 42 0<|av .z n),(1009000,.box 42 0<|av .z<|p8 D),(10005000,.box 42 0<|av .z<|mj k)],20,[]⟩ ?_<|λf=>e J<|F J (λb=>?_)<|λb=>dk ?_;rotate_left
 .have b:k%8=7:=by have b:(k.tmod 8==7)=true:=b;rw[l7 C]at b;exact eS b
  rw[q b]at v;subst v;exact cL<|rc J J T<|rc J J W<|rc J J u (rc J J X<|O J<|fp f aY) (hp:=aH)
 .have b:¬k%8=7:=by have b:(k.tmod 8==7)=ak:=b;rw[l7 C]at b;exact HA b
  rw[j b]at v;subst v;exact fp f aY
 refine nP ⟨[(2,.c<|.P 1000 0),(3,.c<|.P 1008000 0),(4,.c<|.P 1009000 0)],[(1000,.box 44 0 [.B ak,.V<|.slice none 0 0,.B ak,.V<|.slice none 0 0]),(1008000,.box 42 0<|av .z n),(1009000,.box 42 0<|av .z d)],30,[]⟩ ?_<|λf=>e J<|F J (λb=>?_)<|λb=>dk ?_;rotate_left
 .have b:k%8=6:=by have b:(k.tmod 8==6)=true:=b;rw[l7 C]at b;exact eS b
  rw[q b]at A;subst A;exact cL<|rc J J E<|rc J J G<|O J<|fp f aY
 .have b:¬k%8=6:=by have b:(k.tmod 8==6)=ak:=b;rw[l7 C]at b;exact HA b
  rw[j b]at A;subst A;exact fp f aY
 exact w<|rc J J i<|O J<|di J
def iQ(x:V):U:=(x:U)
def x6(l:E V)(a:G):E U:=gH<|(c (a+1) l).map iQ
def BM(x:E (V×V×V))(a:G):E U:=gH<|(c (a+1) x).map so
def zN(x:V×V×V):V×V×V:=(x.1,x.2.1,0)
def BN(x:E (V×V×V))(a:G):E U:=BM (x.map zN) a
def Q3{a b:Type}(f:a->b) d l i(g:i<Z l):((c (i+1) l).map f)=((c i l).map f)++[f (I l i d)]:=by rw[uC,fL];simp[cT g,aO]
def ag2(l:E V)(a:G)(f:a<=1000)(k:∀x∈l,-128<=x/\x<=127):aq r 61 [S I8 l,y a] (S .q<|x6 l a):=by
 refine aS Tryz.func61<|xj 0 J λg=>?_;have g:Z l*1<=140737488355328:=g;refine e J<|w<|ij .q [] J J (O J<|bA<|e J ?_);refine aA<|bx (α:=G) (λi=>⟨[(0,S I8 l),(1,y a),(5,.c<|.X 1000000),(6,y i)],[(1000000,.vec 44 .q<|(c i l).map iQ)],3,[]⟩) (λi=>i<=Z l/\i<=a+1) (λi=>Z l-i) 0 ⟨bm _,bm _⟩ aY ?_;rintro i ⟨p,m⟩;refine bA<|w<|rg 12 J J (λh=>?_)<|λh=>?_
 .have h:i<Z l:=by have h:(i:V)<(Z l:V):=aX h;omega
  refine O J<|F J (λh2=>?_)<|λh2=>?_
  .have h2:i<=a:=by have h2:(i:V)<=a:=aX h2;omega
   have b:=Q3 iQ 0 l i h;have s:=k (I l i 0) XR;have n:aq r 30 [y (I l (ah (i:V)) 0)] (aQ<|iQ<|I l i 0):=by rw[cx];exact y6 _ Y Y
   have t: -9223372036854775808<=I l (ah (i:V)) I8.et/\I l (ah (i:V)) I8.et<=9223372036854775807:=by rw[cx];show-9223372036854775808<=I l i 0/\I l i 0<=9223372036854775807;omega
   refine aG<|bA<|aA<|cL<|rc J J n (rl .q [iQ (I l i 0)] J J (ra J J J J J J J J J ?_ ?_<|O J<|bU<|rt J<|a6 (i+1) ⟨Y,Y⟩ zO<|Wk.trans (wk (st':=⟨[(0,S I8 l),(1,y a),(5,.c<|.X 4008000),(6,y ((i+1:G):V))],[(4008000,.vec 44 .q<|(c (i+1) l).map iQ)],6,[]⟩) ⟨sR J,sR J,sR J,sE J ?_,M⟩ ⟨bE J ?_,M⟩)<|Wk.trans (iw 1000000 4008000 J J J) aY)) (hp:=?_)
   .show(_+1+(_+1)/4+192)*64<=_;simp only[c7,hZ];omega
   .show(_+1)*4<=_;simp only[c7,hZ];omega
   .rfl
   .rw[b]
   .simp only[Pr.an,Pr.h,num,gy,true_and,and_true];first|done|omega
  .have h2:¬i<=a:=by have h2:¬(i:V)<=a:=bh h2;omega
   have d:=D6 ((c i l).map iQ) HB;rw[show gH ((c i l).map iQ)=x6 l a by rw[x6,(Y:i=a+1)]]at d;exact bD<|aR<|dm 1000000 J J J<|bL J J d J<|di J
 .have h:i=Z l:=by have h:¬(i:V)<(Z l:V):=bh h;omega
  have d:=D6 ((c i l).map iQ) HB;rw[show gH ((c i l).map iQ)=x6 l a by rw[x6,jy Y,jy Y]]at d;refine O J<|F J (λh2=>sc)<|λ_=>?_;exact bD<|aR<|dm 1000000 J J J<|bL J J d J<|di J
end Go.El
namespace Go.El
open Go Go.Proofs Fx
def Q4{p:G}(H:bF p)(A:Fx p):E V:=zC<|jS H.pos A
def XS{p}(H:bF p) A:bJ p (Q4 H A):=(xN<|jS H.pos A).1
def as9{p}(H:bF p) A:fx (Q4 H A)=A:=(xN<|jS H.pos A).2
def iS{p:G}(H:bF p)(f:E V)(A:Fx p):E V:=(aV (Q4 H A) f p).2
section
variable{p:G}(H:bF p){f:E V}(hf:bJ p f)(kE:f≠[])
include hf kE
def zQ(A:Fx p):bJ p (iS H f A)/\Z (iS H f A)<Z f/\fx f∣fx (iS H f A)-A:=by let ⟨d1,d2,d3,d4,d5,d6⟩:=nh H.hp H.le (XS H A).1 hf kE;have a:=cR.2 kE;refine⟨d5<|XS H A,by show(aV (Q4 H A) f p).2.length<_;omega,?_⟩;have:=Qc H (XS H A) hf kE;rwa[as9]at this
def as'{A:Fx p}{a:E V}(b:bJ p a)(l:Z a<Z f)(d:fx f∣fx a-A):a=iS H f A:=by let ⟨m1,m,g⟩:=zQ H hf kE A;have i:fx f∣fx a-fx (iS H f A):=mH d<|oE g;have k:=uJ H i (by have:=Hd H.pos (fx a:Fx p)<|fx<|iS H f A;rw[dc b,dc m1]at this;rw[dc hf];omega);exact wG b m1<|Bo k
end
def x7(p:G)(f a b:E V):E V:=(aV (cX a b p) f p).2
def XT{p}(H:bF p){f a b}(g:bJ p f)(d:f≠[]):bJ p (x7 p f a b)/\Z (x7 p f a b)<Z f/\(fx f:Fx p)∣fx (x7 p f a b)-fx a*fx b:=by let ⟨d1,d2,d3,d4,d5,d6⟩:=nh H.hp H.le (oB H.pos a b).1 g d;have i:=cR.2 d;refine⟨d5<|oB H.pos a b,by show(aV (cX a b p) f p).2.length<_;omega,?_⟩;have:=Qc H (oB H.pos a b) g d;rwa[xW]at this
def iT(p:G):E (E V)->Fx p
 |[]=>1
 |g::l=>fx g*iT p l
def LC(p:G):∀l m:E (E V),iT p (l++m)=iT p l*iT p m
 |[],m=>(cY _).symm
 |g::l,m=>by rw[lO,iT,iT,LC p l m,c9]
def Q5(p:G):∀{l:E (E V)}{g:E V},g∈l->(fx g:Fx p)∣iT p l
 |a::l,g,hg=>by
  rcases b9.1 hg with rfl|hg
  .exact nU _ _
  .exact eW (Q5 p hg) _
end Go.El
namespace Go.El
open Go Go.Proofs
def ata(f:G->V){i a}(b:i<a):I ((cy a).map f) i 0=f i:=by rw[aO,jn,lp b];rfl
open Fx
open Classical in
def XU{p:G}(H:bF p):∀{l:E (E V)},(∀g∈l,Mon p g/\2<=Z g)->iT p l≠0/\Z l+1<=sz (iT p l)
 |[],_=>⟨pY H,by rw[iT,pn H];exact aN _⟩
 |g::l,a=>by
  let ⟨b,h2⟩:=XU H (l:=l) λg d=>a g (by simp[d])
  let ⟨m1,i⟩:=a g ax;have f:=dV H (m1.lH H) b;rw[dc m1.c]at f;refine⟨oA H (m1.lH H) b,?_⟩;rw[iT,iK];omega
structure wQ(p:G)(f:E V)(l:E (E V)):Prop where
 parts:∀g∈l,Mon p g/\2<=g.length/\bw (fx g:Fx p)
 prod:iT p l=fx f
structure qZ(p:G)(a:E V):Prop where
 H:bF p
 am:aL a
 l2:2<=a.length
 l9:a.length<=9
 co:Co (fx a:Fx p) (bG<|fx a)
def Q6:∀(l m:E (E V)),dQ (l++m)=dQ l+dQ m
 |[],m=>by rw[tZ,dQ,fc]
 |f::l,m=>by rw[lO,dQ,dQ,Q6 l m];omega
def ag3{p:G}:∀l:E (E V),iT p l=gN l
 |[]=>rfl
 |f::l=>by rw[iT,gN,ag3 l]
def ag4{p:G}(H:bF p):∀{l:E (E V)},(∀g∈l,bw (fx g:Fx p))->sk (gN l:Fx p)->l.Pairwise (λx a=>Co (fx x:Fx p)<|fx a)
 |[],_,_=>LD
 |x::l,i,k=>by
  have d:∀{l:E (E V)}{a:E V},a∈l->(fx a:Fx p)∣gN l:=by
   intro l;induction l with
   |nil=>intro f b;cases b
   |cons a l m=>
    intro f b
    rcases b9.1 b with rfl|b
    .exact⟨gN l,by rw[gN,c8]⟩
    .let ⟨w,hw⟩:=m b;exact⟨fx a*w,by rw[gN,hw,c9]⟩
  refine kI.2 ⟨λa n=>?_,ag4 H (λg s=>i g<|by simp[s]) (k.of_dvd ⟨fx x,J⟩)⟩;have t:=i x ax;refine Hf H (λe=>by have:=t.1;rw[e,je H.pos]at this;omega) λQ hQ z A=>k Q hQ ?_
  let ⟨u,hu⟩:=z;let ⟨v,hv⟩:=fG A<|d n;refine⟨u*v,?_⟩;show fx x*gN l=_;rw[hu,hv];ac_rfl
section
variable{p:G}{a:E V}
def qZ.p1(b:qZ p a):1<(p:V):=by have:=b.H.hp.1;omega
def qZ.trim(b:qZ p a):aU (md p a)=md p a:=(b.am.md b.p1).trim
def qZ.f(b:qZ p a):Mon p (md p a)/\(md p a).length=Z a/\(fx (md p a):Fx p)=fx a:=by refine⟨⟨?_,(b.am.md b.p1).1,(b.am.md b.p1).2⟩,zg _ _,afE a⟩;rw[<-b.trim];exact mh b.H.pos<|DF b.H.pos a
def qZ.ne(b:qZ p a):(fx a:Fx p)≠0:=λe=>by have:=wI b.H b.am;rw[e,je b.H.pos]at this;have:=b.l2;omega
def qZ.mJ(b:qZ p a):sk (fx a:Fx p):=by let ⟨U,V,e⟩:=b.co;exact afL b.H b.ne (D:=1) (U:=U) (V:=V) (fv _).symm e.symm
def XV:∀{l:E (E V)},(∀f∈l,2<=Z f)->Z l<=dQ l/\∀f∈l,Z f<=1+dQ l
 |[],_=>⟨aN _,λf b=>by cases b⟩
 |x::l,d=>by
  let ⟨i1,i2⟩:=XV (l:=l) λf b=>d f (by simp[b])
  have:=d x ax;refine⟨by rw[iK,dQ];omega,λf b=>?_⟩;rw[dQ];rcases b9.1 b with rfl|b
  .omega
  .have:=i2 f b;omega
end
def ag5(a:E V):∀n,((nf a n:G):V)=sm (λi=>(aD (I a i 0):V)) n
 |0=>rfl
 |n+1=>by rw[nf,sm,<-ag5 a n,y5]
def ag6{a}(m:aL a){g}(d:aL g)(t:Rx.zx g∣Rx.zx a) i:(I g i 0).natAbs<=il a:=by
 let ⟨k,f⟩:=t;have b:Rx.Mo k:=by have:=Rx.p7 m;rw[f]at this;exact this.zu<|Rx.p7 d
 let ⟨i1,_⟩:=Rx.Qt b (Rx.p7 d)<|f▸Rx.zG a;let ⟨q,q1,u⟩:=Rx.Ld i1;subst u;have s:aL q:=Rx.Qk q1 b;have n:=Rx.Ql f.symm;have C:=cR.2 s.1;have D:=cR.2 d.1;have H:=cR.2 m.1;have v:=Rx.dV b.ne (Rx.p7 d).ne;rw[<-f,Rx.mi m.can,Rx.mi q1,Rx.mi d.can]at v;have p:=Rx.afq (A:=ps g) (B:=ps q) (k:=Z g-1) (l:=Z q-1) (λj x=>fQ g Y) (λj x=>fQ q Y) (by rw[cM,s.2];decide) i;rw[PS.c8,n,(Y:Z g-1+(Z q-1)=Z a-1)]at p;have z:Rx.oU (Z a-1) (ps a)=((nf a (Z a):G):V):=by rw[ag5,Rx.oU,(Y:Z a-1+1=Z a)];rfl
 rw[z]at p;have e:((il a:G):V)=2^(Z a-1)*((nf a (Z a):G):V):=by rw[il,fP,wj,fo];rfl
 rw[<-e,cM]at p;omega
def k4(p:G)(f:E V):E V:=(cy<|Z f-1).map λi=>((((i+1)%p:G):V)*I f (i+1) 0)%(p:V)
def LF p f:Z (k4 p f)=Z f-1:=by simp[k4]
def XW p f{i}(a:i<Z f-1):I (k4 p f) i 0=((((i+1)%p:G):V)*I f (i+1) 0)%(p:V):=by unfold k4;rw[aO,jn,lp a];rfl
def XX(p:G) f:(fx (k4 p f):Fx p)=bG (fx f):=mk_eq.2 (Cg.of λi=>by
 show I (k4 p f) i 0%(p:V)=((i:V)+1)*I f (i+1) 0%(p:V);by_cases h:i<Z f-1
 .rw[XW p f h,nT,Kf,sb,nT,<-sb];rfl
 .rw[fQ _ (by rw[LF];omega),fQ f Y,iy])
def LG{p:G}(a:0<p) f:rp p (k4 p f):=λi=>by
 by_cases h:i<Z f-1
 .rw[XW p f h];exact⟨jq _ Y,jr _ Y⟩
 .rw[fQ _ (by rw[LF];omega)];exact⟨iD _,Y⟩
def HC(p:G)(a:E V):Bool:=decide<|List.length (gV p (aU<|md p a)<|aU<|k4 p<|aU<|md p a)=1
def ag7{p}(H:bF p) a:HC p a=true↔Co (fx a:Fx p) (bG<|fx a):=by
 have d:bJ p (aU<|md p a):=mh H.pos<|DF H.pos a;have f:bJ p (aU<|k4 p<|aU<|md p a):=mh H.pos<|LG DR _;have b:(fx (aU<|md p a):Fx p)=fx a:=by rw[Hk,afE]
 have g:(fx (aU<|k4 p<|aU<|md p a):Fx p)=bG (fx a):=by rw[Hk,XX,b]
 unfold HC;rw[decide_eq_true_iff,aqK H.hp H.le d f,<-aru,b,g]
def XY p b(l:2<=p):∃k,1<=k/\b<p^k/\∀d,1<=d->d<k->p^d<=b:=by
 have g:∀n,n<p^n:=λn=>fY Nat.lt_two_pow_self<|zA l n
 have i:∀n,(∀d,1<=d->d<n+1->p^d<=b)\/∃k,1<=k/\b<p^k/\∀d,1<=d->d<k->p^d<=b:=by
  intro n;induction n with
  |zero=>exact .inl λd a b=>by omega
  |succ n f=>
   rcases f with f|f
   .by_cases h:p^(n+1)<=b
    .refine .inl λd g m=>?_
     by_cases e:d=n+1
     .rw[e];exact h
     .exact f d g Y
    .exact .inr ⟨n+1,Y,Y,f⟩
   .exact .inr f
 rcases i (b+1)with h|h
 .have:=h (b+1) Y Y;have:=g<|b+1;omega
 .exact h
open Classical in
def oH(p b:G):G:=if hp:2<=p then zC (XY p b hp)else 1
def ag8{p}(a:2<=p) b:1<=oH p b/\b<p^oH p b/\∀d,1<=d->d<oH p b->p^d<=b:=by have e:oH p b=zC (XY p b a):=dif_pos a;rw[e];exact xN<|XY p b a
structure LH(a:E V):Prop where
 am:aL a
 l2:2<=a.length
 l9:a.length<=9
 aB:∀i,aK 24 (a.getD i 0)
 ex:∃p∈tF,Co (fx a:Fx p) (bG<|fx a)
def atb{p}(a:p∈tF):bF p:=⟨ard a,by have:=(afr a).2;omega⟩
open Classical in
def atc{A}(b:Rx.sz A=2):Rx.bw A:=by
 refine⟨Y,λX i e=>?_⟩;have d:A≠0:=λe=>by rw[e,Rx.je]at b;omega
 have f:X≠0:=λa=>d (by rw[e,a,Rx.dw])
 have g:i≠0:=λa=>d (by rw[e,a,Rx.g8])
 have k:=Rx.dV f g;rw[<-e,b]at k;have:=Rx.fe f;have:=Rx.fe g;omega
def LH.bB{a}(b:LH a):aK 26 ((2*il a:G):V):=by have f:=aeY a b.aB (i:=Z a) (by have:=b.l9;omega);have d:2^(Z a-1)<=2^8:=eU o (by have:=b.l9;omega);unfold aK at*;rw[pe]at*;have g:il a<=nf a (Z a)*2^8:=ja _ d;omega
def LH.mBp{a}(f:LH a){p:G}(q1:2<=p)(m:p<4294967296):aK 27 ((p:V)^oH p (2*il a))/\oH p (2*il a)<=833:=by
 have d:=f.bB;let ⟨n,s,g⟩:=ag8 (p:=p) q1<|2*il a;generalize oH p (2*il a)=k at*;generalize 2*il a=b at*;unfold aK at d;rw[pe]at d;by_cases e:k=1
 .subst e;refine⟨?_,Y⟩;unfold aK;rw[gG,qN,mc,pe];have:(4294967296:G)^1<=4294967296^27:=eU o o;omega
 .obtain⟨j,rfl⟩:∃j,k=j+1:=⟨k-1,Y⟩;have t:=g j Y Y;have u:p^j<4294967296^26:=Y;constructor
  .unfold aK;rw[<-wj,pe,gK];have v:p^j*p<=p^j*4294967296:=ja _ Y;omega
  .have i:2^j<=p^j:=zA Y j;have l:∀n:G,p^j<4294967296^n->j<32*n:=λn h=>(Nat.pow_lt_pow_iff_right (a:=2) o).1<|tm i (by rw[G4];exact h)
   have:=l 26 u;omega
abbrev MT:ET:= .pr (.sl au) ot
def jt(p:G):E (E V×V)->Fx p
 |[]=>1
 |x::l=>pk (fx x.1) (ah x.2)*jt p l
def ag9(p:G)(x:E V×V):∀l,jt p (l++[x])=jt p l*pk (fx x.1) (ah x.2)
 |[]=>by show pk (fx x.1) (ah x.2)*1=1*pk (fx x.1) (ah x.2);rw[fv,cY]
 |a::l=>by rw[lO,jt,jt,ag9 p x l,c9]
def pull(p:G)(g:E V):G->E V->G->E V×G
 |0,f,n=>(f,n)
 |k+1,f,n=>if(aV f g p).2=[]then pull p g k (aV f g p).1 (n+1)else(f,n)
def ag'{p:G}(H:bF p){g:E V}(a:Mon p g)(l:2<=Z g):∀(k:G)(f:E V)(n:G),Z f<k->Mon p f->Mon p (pull p g k f n).1/\(fx f:Fx p)*pk (fx g) n=fx (pull p g k f n).1*pk (fx g) (pull p g k f n).2/\¬(fx g:Fx p)∣fx (pull p g k f n).1/\n<=(pull p g k f n).2/\((fx g:Fx p)∣fx f->n+1<=(pull p g k f n).2/\(pull p g k f n).1.length<Z f)/\(pull p g k f n).1.length<=Z f
 |0,_,_,d,_=>by omega
 |k+1,f,n,d,b=>by
  rw[pull];split
  .rename_i m;have i:=(Qb H b.c a.c a.ne).1 m;have t:=DU H b.c a.c a.ne i;have s:Z g<=Z f:=by have:=kX H i<|b.lH H;rwa[dc a.c,dc b.c]at this
   have u:=WS H b a s;let ⟨_,_,_,_,_,v⟩:=nh H.hp H.le b.c.1 a.c a.ne;have x:(aV f g p).1.length<Z f:=Y;let ⟨i1,i2,i3,i4,i5,i6⟩:=ag' H a l k (aV f g p).1 (n+1) Y u;refine⟨i1,?_,i3,Y,λ_=>⟨Y,Y⟩,Y⟩;rw[<-i2,t,pk];ac_rfl
  .rename_i m;have i:¬(fx g:Fx p)∣fx f:=λd=>m ((Qb H b.c a.c a.ne).2 d)
   exact⟨b,J,i,aN _,λd=>aJ d i,aN _⟩
structure wR(p:G)(a:Fx p)(f:E V)(m:G)(l:E (E V×V)):Prop where
 aL:Mon p f
 prod:a=pk (fx f) m*jt p l
 gI:∀x∈l,Mon p x.1/\2<=x.1.length/\bw (fx x.1:Fx p)/\1<=x.2
 nd:∀x∈l,¬(fx x.1:Fx p)∣fx f
 ds:l.Pairwise λx b=>x.1≠b.1
 m1:1<=m
def XZ{p:G}(H:bF p){Q:Fx p}(a:2<=sz Q):∀m,m+1<=sz (pk Q m)
 |0=>by rw[pk,pn H];exact aN _
 |m+1=>by
  have b:Q≠0:=λe=>by rw[e,je H.pos]at a;omega
  have d:=dV H (DT H b m) b;have f:=XZ H a m;rw[pk];omega
def aha{p:G}(H:bF p):∀{l:E (E V×V)},(∀x∈l,Mon p x.1/\2<=Z x.1/\1<=x.2)->jt p l≠0/\Z l+1<=sz (jt p l)/\∀x∈l,x.2+1<=sz (jt p l)
 |[],_=>⟨pY H,by rw[jt,pn H];exact aN _,λx hx=>by cases hx⟩
 |a::l,d=>by
  let ⟨b,h2,g⟩:=aha H (l:=l) λx hx=>d x k7
  let ⟨m1,i,k⟩:=d a ax;have f:(fx a.1:Fx p)≠0:=m1.lH H;have m:=XZ H (show 2<=sz (fx a.1:Fx p)by rw[dc m1.c];exact i)<|ah a.2;have n:=dV H (DT H f<|ah a.2) b;have s:=fe H.pos b;refine⟨oA H (DT H f _) b,?_,λx hx=>?_⟩
  .rw[jt,iK];omega
  .rw[jt];rcases b9.1 hx with rfl|hx
   .omega
   .have:=g x hx;omega
def wR.bounds{p}(H:bF p){d}{f}{m}{l}(a:wR p d f m l):Z l+1<=sz d/\(∀x∈l,x.2+1<=sz d)/\(2<=Z f->m+1<=sz d):=by
 let ⟨g,h2,i⟩:=aha H (l:=l) λx b=>⟨(a.gI x b).1,(a.gI x b).2.1,(a.gI x b).2.2.2⟩
 have k:=dV H (DT H (a.aL.lH H) m) g;have s:=fe H.pos<|DT H (a.aL.lH H) m;rw[<-a.prod]at k;refine⟨Y,λx b=>by have:=i x b;omega,λn=>?_⟩;have t:=XZ H (show 2<=sz (fx f:Fx p)by rw[dc a.aL.c];exact n) m;omega
def wR.start{p:G}{f:E V}(b:Mon p f):wR p (fx f) f 1 [] where
 aL:=b
 prod:=by rw[se,jt,fv]
 gI:=λx a=>by cases a
 nd:=λx a=>by cases a
 ds:=LD
 m1:=aN _
def kF(p n:G):G:=(n+p-1)/p
def ahb{p}(H:bF p){f}(g:Mon p f)(N:2<=Z f)(u:bG (fx f:Fx p)=0):Mon p (nX p f<|kF p<|Z f)/\(fx f:Fx p)=pk (fx<|nX p f<|kF p<|Z f) p/\2<=Z (nX p f<|kF p<|Z f)/\Z (nX p f<|kF p<|Z f)<Z f:=by
 have k:=H.hp.1;have a:Z (nX p f<|kF p<|Z f)=kF p (Z f):=by simp[nX]
 have l:Z f<=kF p (Z f)*p:=by unfold kF;have:=sU (Z f+p-1) p;have:=gJ (Z f+p-1) (Y:0<p);rw[ic];omega
 have m:=Fx.db H u l;have v:(Z f-1)%p=0:=eR λP=>by
  have z:=mk_eq.1 (u:mk (qU<|ps f) (zD<|bC.ps p f)=mk 0 (bC.zero p));have x:=z.at<|Z f-2;rw[PS.lD,iH]at x;have A:((Z f-2:G):V)+1=((Z f-1:G):V):=Y;have B:qU (ps f) (Z f-2)=((Z f-1:G):V)*1:=by show(((Z f-2:G):V)+1)*I f (Z f-2+1) 0=_;rw[A,(Y:Z f-2+1=Z f-1),g.one]
  rw[B,oy]at x;omega
 obtain⟨t,C⟩:∃t,Z f-1=t*p:=⟨(Z f-1)/p,by have:=sU (Z f-1) p;rw[ic];omega⟩;have n:kF p (Z f)=t+1:=by unfold kF;rw[(Y:Z f+p-1=t*p+p),(Iu:t*p+p=(t+1)*p)];exact VZ _ Y
 have D:1<=t:=by
  rcases r8 t with e|e
  .subst e;omega
  .exact e
 have K:t*2<=t*p:=ja t k;have b:∀i,I (nX p f<|kF p<|Z f) i 0=if i<kF p (Z f)then I f (i*p) 0 else 0:=λi=>by
  by_cases s:i<kF p (Z f)
  .rw[q s];exact ata _ s
  .rw[j s,fQ _ Y]
 have d:I (nX p f<|kF p<|Z f) (Z (nX p f<|kF p<|Z f)-1) 0=1:=by rw[a,b,q Y,n,eD,<-C,g.one]
 refine⟨⟨⟨λi=>?_,.inr (by rw[d];decide)⟩,λe=>by rw[e]at a;simp at a;omega,d⟩,m,Y,Y⟩;rw[b];split
 .exact g.c.1 _
 .exact⟨iD _,H.pos⟩
structure D9(p:G)(f:E V)(a:E (E V)):Prop where
 ok:∀g∈a,Mon p g/\2<=g.length/\bw (fx g:Fx p)/\(fx g:Fx p)∣fx f
 ds:a.Pairwise λx b=>x≠b
def ate{p}(H:bF p){a b}(d:Mon p a)(f:Mon p b)(l:bw (fx b:Fx p))(m:2<=Z a)(n:(fx a:Fx p)∣fx b):a=b:=by
 let ⟨w,hw⟩:=n;have g:sz (fx a:Fx p)≠1:=by rw[dc d.c];omega
 rcases l.2 _ _ hw with e|e
 .obtain⟨c,i,rfl⟩:=He H e;have s:=dV H (tD H i)<|d.lH H;rw[<-hw,dc f.c,dc d.c,wD H i]at s;have t:Z b=Z a:=Y;have k:(ps b) (Z a-1)%(p:V)=(PS.K c*ps a) (Z a-1)%(p:V):=(mk_eq.1<|show(mk (ps b) (bC.ps p b):Fx p)=mk (PS.K c*ps a) ((bC.K p c).mul<|bC.ps p a)from hw).at _;rw[PS.dL,cM,cM,d.one,<-t,f.one,oy]at k;have u:(K c:Fx p)=1:=by rw[<-jE];exact DP k.symm
  rw[u,cY]at hw;exact(wG f.c d.c hw).symm
 .exact aJ e g
def Q8{p:G}(H:bF p){Q A:Fx p}(hQ:bw Q):∀n,Q∣pk A n->Q∣A
 |0,a=>aJ a<|hQ.zs H
 |n+1,a=>by
  rcases hQ.nW H (show Q∣pk A n*A from a)with b|b
  .exact Q8 H hQ n b
  .exact b
def wR.pull{p}(H:bF p){u}{f}{m}{l}(b:wR p u f m l){g}{v}(d:D9 p f (g::v)):
  wR p u (pull p g (Z f+1) f 0).1 m (l++[(g,(((pull p g (Z f+1) f 0).2:G):V)*(m:V))])/\D9 p (pull p g (Z f+1) f 0).1 v/\(pull p g (Z f+1) f 0).1.length<Z f:=by
 let ⟨i,g2,z,A⟩:=d.ok g ax
 let ⟨q1,q2,B,T,C,W⟩:=ag' H i g2 (Z f+1) f 0 (dO _) b.aL
 let ⟨X,D⟩:=C A
 generalize Go.El.pull p g (Z f+1) f 0=x at*
 let ⟨c,n⟩:=x
 simp only at q1 q2 B T C W X D⊢
 rw[pk,fv]at q2
 let ⟨d1,d2⟩:=kI.1 d.ds
 have s:(fx c:Fx p)∣fx f:=Q9
 refine⟨⟨q1,?_,?_,?_,?_,b.m1⟩,⟨λk K=>?_,d2⟩,D⟩
 .rw[b.prod,q2,ag9,wA];have e:ah ((n:V)*(m:V))=n*m:=by rw[<-fP,cx]
  simp only[e,wz];ac_rfl
 .intro x a;rcases bg.1 a with a|a
  .exact b.gI x a
  .have e:=iM.1 a;subst e;refine⟨i,g2,z,?_⟩;have:=Be (Y:0<n) (show 0<m from b.m1);show(1:V)<=(n:V)*(m:V);rw[<-fP];omega
 .intro x a;rcases bg.1 a with a|a
  .exact λj=>b.nd x a<|fG j s
  .have e:=iM.1 a;subst e;exact B
 .refine zI.2 ⟨b.ds,WK _ _,λx a y o e=>?_⟩;have q:=iM.1 o;subst q;exact b.nd x a (by rw[e];exact A)
 .let ⟨N,P,t,Q⟩:=d.ok k (by simp[K]);refine⟨N,P,t,?_⟩;rw[q2]at Q;rcases t.nW H Q with e|e
  .exact e
  .exact aJ (ate H N i z P<|Q8 H t n e).symm<|d1 k K
def iv(p:G)(m:G):E (E V)->E V×E (E V×V)->E V×E (E V×V)
 |[],x=>x
 |g::a,x=>iv p m a ((pull p g (Z x.1+1) x.1 0).1,x.2++[(g,(((pull p g (Z x.1+1) x.1 0).2:G):V)*(m:V))])
def X0{p:G}(H:bF p){d:Fx p}{m:G}:∀(a:E (E V))(f:E V)(l:E (E V×V)),wR p d f m l->D9 p f a->wR p d (iv p m a (f,l)).1 m (iv p m a (f,l)).2/\(iv p m a (f,l)).1.length<=Z f/\(a≠[]->(iv p m a (f,l)).1.length<Z f)
 |[],_,_,b,_=>⟨b,aN _,λi=>aJ J i⟩
 |g::a,f,l,b,hr=>by let ⟨i1,i2,i3⟩:=b.pull H hr;let ⟨j1,j2,_⟩:=X0 H a _ _ i1 i2;rw[iv];exact⟨j1,by simp only at j2⊢;omega,λ_=>by simp only at j2⊢;omega⟩
def atf{p}(H:bF p){f}(a:aU (k4 p f)=[]):bG (fx f:Fx p)=0:=by rw[<-XX,<-Hk,a,lG]
structure Ea(p:G)(a:Fx p)(l:E (E V×V)):Prop where
 parts:∀x∈l,Mon p x.1/\2<=x.1.length/\bw (fx x.1:Fx p)/\1<=x.2
 ds:l.Pairwise λx b=>x.1≠b.1
 prod:jt p l=a
end Go.El
namespace Go.El
open Go Go.Proofs
def q6(a b:V):V:=if a<b then-1 else if a>b then 1 else 0
def Ec(a b:E V):G->V
 |0=>0
 |i+1=>if q6 (I a i 0) (I b i 0)≠0 then q6 (I a i 0) (I b i 0)else Ec a b i
def tL(a b:E V):V:=if Z a≠Z b then q6 (Z a) (Z b)else Ec a b (Z a)
section
variable{α:Type}{d:α}{cm:α->α->V}
def gAd(d:α)(cm:α->α->V)(xs:E (α))(k:G):Prop:=∀t,t<k->0<=cm (I xs (t+1) d) (I xs t d)
end
open Fx
abbrev d0M:E V×V:=([],0)
def atg a b:q6 a b= -q6 b a:=by unfold q6;split<;>split<;>(try split)<;>omega
end Go.El
namespace Go.El
open Go Go.Proofs
namespace Rx
def HD(t:U)(m:G):∀n:G,t^(m+n)=t^m*t^n
 |0=>by rw[jZ,uV,lF]
 |n+1=>by rw[<-sJ,uW,HD t m n,uW,mG]
def X2(s t:U):∀n:G,(s*t)^n=s^n*t^n
 |0=>by rw[uV,uV,uV,lF]
 |n+1=>by rw[uW,uW,uW,X2 s t n];grind
def X3:∀n:G,(1:U)^n=1
 |0=>uV _
 |n+1=>by rw[uW,X3 n,lF]
def LI{t:U}(b:t≠0):∀n:G,t^n≠0
 |0=>by rw[uV];decide
 |n+1=>λa=>by
  rw[uW]at a;rcases zp.1 a with a|a
  .exact LI b n a
  .exact b a
def hJ(t:U)(A:Rx):Rx:=⟨λi=>t^i*A i,by let ⟨n,a⟩:=A.2;exact⟨n,λi b=>by show t^i*A.v i=0;rw[a i b,dU]⟩⟩
def oI t A i:hJ t A i=t^i*A i:=rfl
def Q' t A B:hJ t (A*B)=hJ t A*hJ t B:=ext λn=>by
 rw[oI,fV,fV,<-PO];refine wy λi a=>?_
 rw[oI,oI];have:t^n=t^i*t^(n-i):=by rw[<-HD,(Y:i+(n-i)=n)]
 rw[this];grind
def ath t A B:hJ t (A+B)=hJ t A+hJ t B:=ext λn=>by rw[oI,dP,dP,oI,oI,KH]
def X4 t a:hJ t (K a)=K a:=ext λn=>by
 rw[oI,kz];split
 .rename_i h;rw[h,uV,ph]
 .rw[dU]
def ati t:hJ t 1=1:=X4 t 1
def ahe s t A:hJ s (hJ t A)=hJ (s*t) A:=ext λn=>by rw[oI,oI,oI,X2,mG]
def ahf A:hJ 1 A=A:=ext λn=>by rw[oI,X3,ph]
def atj t A:bG (hJ t A)=K t*hJ t (bG A):=ext λn=>by rw[si,oI,eF,oI,si,uW];grind
def Ra{t}(b:t≠0) A:sz (hJ t A)=sz A:=by
 have a:∀(s:U)(B:Rx),sz (hJ s B)<=sz B:=λs B=>pj λi d=>by rw[oI,jT d,dU]
 have g:=a t A;have f:=a t⁻¹ (hJ t A);rw[ahe,nV t b,ahf]at f;omega
def bw.hJ{t}(a:t≠0){A}(b:bw A):bw (hJ t A):=by
 refine⟨by rw[Ra a];exact b.1,λX Y e=>?_⟩;have d:A=Rx.hJ t⁻¹ X*Rx.hJ t⁻¹ Y:=by rw[<-Q',<-e,ahe,nV t a,ahf]
 have:=b.2 _ _ d;rwa[Ra (uU a),Ra<|uU a]at this
def mS(t:U)(A:Rx):Rx:=K (t^(sz A-1))*hJ t⁻¹ A
def ahg{t}(a:t≠0) A:sz (mS t A)=sz A:=by
 by_cases h:A=0
 .subst h;have e:hJ t⁻¹ 0=(0:Rx):=ext λi=>by rw[oI,lD,dU]
  rw[mS,e,g8]
 .have b:=Ra (uU a) A;have d:hJ t⁻¹ A≠0:=λe=>by rw[e,je]at b;have:=fe h;omega
  have f:=dV (tD<|LI a<|sz A-1) d;rw[wD (LI a _),b]at f;show sz (K _*_)=_;omega
def HE{t:U}(a:t≠0)(n:G):t^n*t⁻¹ ^n=1:=by rw[<-X2,X5 t a,X3]
def LJ{t}A i:mS t A i=t^(sz A-1)*(t⁻¹ ^i*A i):=by rw[mS,eF,oI]
def atk{t}(a:t≠0){A}(b:Mo A):Mo (mS t A):=by rw[Mo,ahg a,LJ,<-mG,HE a,ph];exact b
def atl t:mS t 1=1:=by rw[mS,pn,ati,fv];show K (t^0)=1;rw[uV,jE]
def atm{t}{A B}(a:A≠0)(b:B≠0):mS t (A*B)=mS t A*mS t B:=by have h:=dV a b;have d:=fe a;have f:=fe b;rw[mS,mS,mS,Q',(Y:sz (A*B)-1=(sz A-1)+(sz B-1)),HD,dL];ac_rfl
def atn{t}(a:t≠0) A:mS t⁻¹ (mS t A)=A:=ext λi=>by rw[LJ,LJ,ahg a,Rat.inv_inv];have b:=HE a<|sz A-1;have d:=HE a i;grind
def ato{t}(a:t≠0){A}(b:bw A):bw (mS t A):=bw.smul (b.hJ<|uU a)<|LI a _
end Rx
open Rx
def iU(a:E U):G->G
 |0=>1
 |i+1=>iU a i*((I a i 0).den/Nat.gcd (iU a i) (I a i 0).den)
def ef(a:E U):G:=iU a<|Z a
def dx(a:E U):E V:=(cy<|Z a).map λk=>(I a k 0).num*((ef a:G):V)^(Z a-1-k)/((I a k 0).den:V)
def lK(a:G)(g:E V):E U:=(cy<|Z g).map λk=>kC (I g k 0)<|(a:V)^(Z g-1-k)
def pC:E (E U)->Rx
 |[]=>1
 |u::l=>lx u*pC l
def X6 a i:iU a (i+1)=Nat.lcm (iU a i) (I a i 0).den:=by rw[iU,Nat.lcm,Nat.mul_div_assoc _<|Wf _ _]
def HG(a:E U):∀i,∀b,b<i->(I a b 0).den∣iU a i
 |0,_,d=>by omega
 |i+1,b,d=>by
  rw[X6];by_cases f:b=i
  .subst f;exact Nat.dvd_lcm_right _ _
  .exact Hj (HG a i b Y)<|Nat.dvd_lcm_left _ _
def X7(a:E U){D:G}(b:∀d,(I a d 0).den∣D):∀i,iU a i∣D
 |0=>Nat.one_dvd _
 |i+1=>by rw[X6];exact Nat.lcm_dvd (X7 a b i)<|b i
def Ed(a:E U):∀i,0<iU a i
 |0=>Nat.zero_lt_one
 |i+1=>by rw[X6];exact Nat.lcm_pos (Ed a i) (I a i 0).den_pos
def Ee a:Z (dx a)=Z a:=by simp[dx]
def Rb a{k}(b:k<Z a):I (dx a) k 0=(I a k 0).num*((ef a:G):V)^(Z a-1-k)/((I a k 0).den:V):=by unfold dx;rw[aO,jn,lp b];rfl
def Re a{D}(b:(a.den:V)∣D):((a.num*D/(a.den:V):V):U)=(D:U)*a:=by
 obtain⟨e,rfl⟩:=b;have d:(a.den:V)≠0:=by have:=a.den_pos;omega
 have f:a.num*((a.den:V)*e)/(a.den:V)=a.num*e:=by rw[(fF:a.num*((a.den:V)*e)=(a.num*e)*(a.den:V)),Int.mul_ediv_cancel _ d]
 rw[f,fW,fW,<-P4 a];have:(((a.den:G):V):U)=((a.den:G):U):=rfl;rw[this];grind
def CD(a b:G)(A:Rx):Prop:=0<a/\∀i,∃z:V,aD z<=b/\((a:G):U)*A i=(z:U)
def CD.int{a b}{A}(d:CD a b A):dt (K ((a:G):U)*A):=dt.of λi=>by let ⟨z,_,h2⟩:=d.2 i;exact⟨z,by rw[eF,h2]⟩
def X8{a}{d b}(f:CD d b (lx a)):ef a∣d:=X7 a (λj=>by
 let ⟨z,_,h2⟩:=f.2 j;rw[eG]at h2;have g:=P4<|I a j 0;generalize I a j 0=r at*;have i:((d:V)*r.num:V)=z*(r.den:V):=by refine xV.1 ?_;rw[fW,fW,<-g,<-h2,pq,pq];grind
 have k:(r.den:V)∣r.num*(d:V):=⟨z,by rw[fo,i,fo]⟩;have l:r.den∣aD r.num*d:=by have:=Kv.2 k;rwa[pX]at this
 exact(r.reduced.symm.dvd_of_dvd_mul_left l)) _
structure jW(a:E U):Prop where
 one:a.getD (a.length-1) 0=1
 l2:2<=a.length
 l9:a.length<=9
 co:Co (lx a) (bG<|lx a)
 aB:∀i,aK 24 ((dx a).getD i 0)
 gd:∃c M,CD c M (lx a)/\(2*((2*(a.length-2)+2)*((a.length-2+1)*M)))^(2*(a.length-2)+1)*c^(2*(a.length-2)+1)<=zB
section
variable{a:E U}
def LK a:((ef a:G):U)≠0:=xS<|WH.1<|Ed a _
def jW.can(b:jW a):bM a:= .inr (by rw[b.one];decide)
def jW.sz(b:jW a):Rx.sz (lx a)=Z a:=eJ b.can
def Rf(b:G):∀n:G,(((b:V)^n:V):U)=((b:G):U)^n
 |0=>by rw[qN,uV];rfl
 |n+1=>by rw[gG,fW,Rf b n,uW];rfl
def Rg{t:U}(b:t≠0){m k:G}(d:k<=m):t^m*t⁻¹ ^k=t^(m-k):=by
 have e:t^m=t^(m-k)*t^k:=by rw[<-HD,(Y:m-k+k=m)]
 rw[e,mG,HE b,lF]
def jW.zx(b:jW a):Rx.zx (dx a)=mS ((ef a:G):U) (lx a):=Rx.ext λi=>by
 rw[lI,LJ,b.sz,eG];by_cases d:i<Z a
 .rw[Rb a d,Re,Rf,<-mG,Rg (LK a) Y];by_cases e:i=Z a-1
  .rw[e,b.one];exact Int.one_dvd _
  .have f:(I a i 0).den∣ef a:=HG a _ i d;have g:((I a i 0).den:V)∣((ef a:G):V):=zf.2 f;obtain⟨j,k⟩:∃j,Z a-1-i=j+1:=⟨Z a-1-i-1,Y⟩;rw[k,gG];exact K2 g<|DX _ _
 .rw[fQ _ (by rw[Ee];omega),gk a Y,dU,dU];rfl
def jW.aL(b:jW a):aL (dx a):=by have d:=b.l2;refine⟨λe=>by have:=Ee a;rw[e]at this;simp at this;omega,?_⟩;rw[Ee,Rb a Y,b.one,jA,qN];rfl
def jW.ahh(t:jW a){l}(hn:l.Nodup)(hp:∀p∈l,bF p)(hb:zB<tG l):∃p∈l,Fx.Co (Fx.fx (dx a):Fx (p:G)) (Fx.bG<|Fx.fx<|dx a):=by
 have l2:=t.l2;let ⟨c,M,f,N⟩:=t.gd;obtain⟨n,X⟩:∃n,Z a=n+2:=⟨Z a-2,Y⟩;rw[X,eD]at N;have hLc:ef a<=c:=uG f.1<|X8 f;have hz:=t.zx;have S:=LK a;have c0:((c:G):U)≠0:=xS (by have:=f.1;omega);have Lp:=Ed a<|Z a;rw[show iU a (Z a)=ef a from J]at Lp;generalize ef a=L at*;obtain⟨F,j,o⟩:=Ld f.int;have hF:Rx.zx F≠0:=by rw[o];exact oA (tD c0) λe=>by have:=t.sz;rw[e,je]at this;omega
 have hFs:Rx.sz (Rx.zx F)=n+2:=by have h3:=dV (tD c0) (λe=>by have:=t.sz;rw[e,je]at this;omega:lx a≠0);rw[wD c0,t.sz]at h3;rw[o];omega
 have hl:Z F=n+2:=by rw[<-mi j,hFs]
 have hB:∀i,aD (I F i 0)<=M:=λi=>by
  let ⟨z,z1,z2⟩:=f.2 i;have e:((I F i 0:V):U)=(z:U):=by rw[<-lI,o,eF,z2]
  rw[xV.1 e];exact z1
 have h1B:1<=M:=pT λe=>by
  rcases j with j|j
  .rw[j]at hl;cases hl
  .have:=hB<|Z F-1;omega
 have Xl:Co (Rx.zx F) (bG<|Rx.zx F):=by let ⟨g,k,e⟩:=t.co;refine⟨K ((c:G):U)⁻¹ *g,K ((c:G):U)⁻¹ *k,?_⟩;have T:=tC c0;rw[o,Hh,<-e,(fF:K ((c:G):U)⁻¹ *g*(K ((c:G):U)*lx a)=(K ((c:G):U)⁻¹ *K ((c:G):U))*(g*lx a)),(fF:K ((c:G):U)⁻¹ *k*(K ((c:G):U)*bG (lx a))=(K ((c:G):U)⁻¹ *K ((c:G):U))*(k*bG (lx a))),T,cY,cY]
 have q:∀i,n+1<i->ps F i=0:=λi m=>fQ F Y
 have r:∀i,n<i->qU (ps F) i=0:=λi m=>by show _*ps F (i+1)=0;rw[q (i+1) Y,iy]
 have hBB:M<=(n+1)*M:=by have:=eB M (Y:1<=n+1);omega
 let ⟨u,v,D,u1,v1,e,hD,ew⟩:=ark (B:=(n+1)*M) Y q r (λi=>bZ (hB i) hBB) (λi=>by
  by_cases m:n<i
  .rw[r i m];exact bm _
  .show aD (((i:V)+1)*ps F (i+1))<=_;rw[pX];exact jQ Y<|hB _)
 have w:qV u u1*Rx.zx F+qV v v1*bG (Rx.zx F)=K (D:U):=by have E:=(Qm u u1).mul<|zG F;have O:=(Qm v v1).mul (Hm F).1;refine arL (Xa E O).1 (dt.K D) ?_;rw[(Xa E O).2,DN (Qm u u1)<|zG F,DN (Qm v v1) (Hm F).1,Qn,Qn,Lc,(Hm F).2,e,afl]
 have hD0:D≠0:=λh0=>by
  subst h0;rw[D2,kV]at w;have d1:Rx.zx F∣qV v v1*bG (Rx.zx F):=by refine zn ?_<|jd (Rx.zx F)<|qV u u1;rw[w];exact uI _
  rw[c8]at d1;have d2:=Xl.dvd d1;have v0:qV v v1=0:=uJ d2 (by have:=pj (A:=qV v v1) (n:=n+1) (λi m=>by show((v i:V):U)=0;rw[v1 i m];rfl);omega);rw[v0,dw,fq]at w;have u0:qV u u1=0:=eR λhu=>oA hu hF w
  refine ew J ?_ ?_
  .rw[<-Qn v v1,v0];rfl
  .rw[<-Qn u u1,u0];rfl
 have hD2:aD (D*(L:V)^(2*n+1))<=zB:=by rw[pX,Int.natAbs_pow,pe];exact bZ (jQ hD<|zA hLc _) N
 let ⟨p,hq,kd⟩:=arp hn (λp hq=>(hp p hq).hp) hb (zz hD0<|Int.ne_of_gt<|ow Y) hD2;refine⟨p,hq,?_⟩;have ee:=HE S;have sF:hJ ((L:G):U)⁻¹ (Rx.zx F)=K (((c:G):U)*((L:G):U)⁻¹ ^(n+1))*Rx.zx (dx a):=by rw[o,Q',X4,hz,mS,t.sz,X,<-Rx.c9,<-dL,show n+2-1=n+1 from J,mG,zk<|((L:G):U)⁻¹ ^(n+1),ee,lF]
 have sD:hJ ((L:G):U)⁻¹ (bG<|Rx.zx F)=K (((L:G):U)*(((c:G):U)*((L:G):U)⁻¹ ^(n+1)))*bG (Rx.zx<|dx a):=by have T:=atj ((L:G):U)⁻¹ (Rx.zx F);rw[sF,Hh]at T;rw[dL,Rx.c9,T,<-Rx.c9,<-dL,X5 _ S,jE,cY]
 have s:=bl (λA=>K (((L:G):U)^(2*n+1))*hJ ((L:G):U)⁻¹ A) w;simp only[ath,Q',X4,sF,sD]at s;have t1:((L:G):U)^(2*n+1)=((L:G):U)^n*((L:G):U)^(n+1):=by rw[<-HD];congr 1;omega
 have E:dt (K (((c:G):U)*((L:G):U)^n)*hJ ((L:G):U)⁻¹ (qV u u1)):=dt.of λi=>by
  rw[eF,oI];show∃z:V,_*(_*((u i:V):U))=_;by_cases m:n<=i
  .exact⟨0,by rw[u1 i m,D2,dU,dU]⟩
  .refine⟨((c*L^(n-i):G):V)*u i,?_⟩;rw[fW,pq,xU,Rat.natCast_pow,<-Rg S (by omega:i<=n)];grind
 have O:dt (K (((c:G):U)*((L:G):U)^(n+1))*hJ ((L:G):U)⁻¹ (qV v v1)):=dt.of λi=>by
  rw[eF,oI];show∃z:V,_*(_*((v i:V):U))=_;by_cases m:n+1<=i
  .exact⟨0,by rw[v1 i m,D2,dU,dU]⟩
  .refine⟨((c*L^(n+1-i):G):V)*v i,?_⟩;rw[fW,pq,xU,Rat.natCast_pow,<-Rg S (by omega:i<=n+1)];grind
 generalize hU:K (((c:G):U)*((L:G):U)^n)*hJ ((L:G):U)⁻¹ (qV u u1)=g at*;generalize hV:K (((c:G):U)*((L:G):U)^(n+1))*hJ ((L:G):U)⁻¹ (qV v v1)=k at*;have eV:g*Rx.zx (dx a)+k*bG (Rx.zx<|dx a)=K ((D*(L:V)^(2*n+1):V):U):=by
  rw[fW,Rf,zk,dL,<-s,Rx.fE,<-hU,<-hV,dL ((c:G):U),dL ((c:G):U),dL ((L:G):U),dL ((c:G):U)<|_^(n+1),t1,dL<|_^n];have T:K (((L:G):U)^(n+1))*K (((L:G):U)⁻¹ ^(n+1))=1:=by rw[<-dL,ee,jE]
  have e2:K (((L:G):U)^n)*K ((L:G):U)=K (((L:G):U)^(n+1)):=by rw[<-dL,<-uW]
  generalize K (((L:G):U)^(n+1))=P at*;generalize K (((L:G):U)⁻¹ ^(n+1))=Q at*;generalize K (((L:G):U)^n)=R at*;generalize K ((c:G):U)=C at*;generalize K ((L:G):U)=W at*;generalize hJ ((L:G):U)⁻¹ (qV u u1)=x at*;generalize hJ ((L:G):U)⁻¹ (qV v v1)=y at*;generalize Rx.zx (dx a)=HH at*;rw[(fF:R*P*(x*(C*Q*HH))=(P*Q)*(C*R*x*HH)),(fF:R*P*(y*(W*(C*Q)*bG HH))=(P*Q)*(C*(R*W)*y*bG HH)),T,e2,cY,cY]
 have H:=hp p hq;have b:∀A:Rx,bC p (nu A):=λA=>⟨Rx.sz A,λi m=>by show(A i).num%(p:V)=0;rw[jT m];exact iH _⟩
 have en:nu g*ps (dx a)+nu k*qU (ps<|dx a)=PS.K (D*(L:V)^(2*n+1)):=by have j1:=E.mul<|zG<|dx a;have j2:=O.mul (Hm<|dx a).1;rw[<-afl,<-eV,(Xa j1 j2).2,DN E<|zG _,DN O (Hm _).1,Lc,(Hm _).2]
 let ⟨d,hd⟩:=Fx.tC H (c:=D*(L:V)^(2*n+1))<|λe0=>kd<|GY e0;refine⟨Fx.K d*Fx.mk (nu g) (b g),Fx.K d*Fx.mk (nu k) (b k),?_⟩;have s:(Fx.mk (nu g) (b g)*Fx.fx (dx a)+Fx.mk (nu k) (b k)*Fx.bG (Fx.fx<|dx a):Fx p)=Fx.K (D*(L:V)^(2*n+1)):=Fx.jU en (((b g).mul<|bC.ps p<|dx a).add<|(b k).mul<|zD<|bC.ps p<|dx a)<|bC.K p _;rw[Fx.c9,Fx.c9,<-Fx.fE,s];exact hd
def jW.mf(b:jW a):LH (dx a):=⟨b.aL,by rw[Ee];exact b.l2,by rw[Ee];exact b.l9,b.aB,b.ahh arl (λ_ d=>atb d) aro⟩
def Rh b g:Z (lK b g)=Z g:=by simp[lK]
def X9 b g{k}(d:k<Z g):I (lK b g) k 0=kC (I g k 0) ((b:V)^(Z g-1-k)):=by unfold lK;rw[aO,jn,lp d];rfl
def att z{b:G}(g:0<b) n:kC z ((b:V)^n)=((b:G):U)⁻¹ ^n*(z:U):=by
 have d:((b:G):U)≠0:=xS Y;rw[P5,Rf,tE];have i:=HE d n;have f:(((b:G):U)^n)⁻¹ =((b:G):U)⁻¹ ^n:=by have k:=nV _<|LI d n;grind
 rw[f,zk]
def ahi{b:G}(d:0<b){g:E V}(f:Go.El.aL g):lx (lK b g)=mS ((b:G):U)⁻¹ (Rx.zx g):=Rx.ext λi=>by
 have k:((b:G):U)≠0:=xS Y;rw[LJ,mi<|aL.can f,lI,eG];by_cases l:i<Z g
 .rw[X9 b g l,att _ d,<-mG,Rg (uU k) Y]
 .rw[gk _ (by rw[Rh];omega),fQ g Y];show(0:U)=_*(_*((0:V):U));rw[show((0:V):U)=0 from J,dU,dU]
def ahj{b}{g}(d:Go.El.aL g):I (lK b g) (Z (lK b g)-1) 0=1:=by have:=cR.2 d.1;rw[Rh,X9 b g Y,d.2,jA,qN];rfl
def ahk{f:G}(k:0<f):∀{b:E (E V)},(∀g∈b,Go.El.aL g)->pC (b.map<|lK f)=mS ((f:G):U)⁻¹ (qX b)
 |[],_=>(atl _).symm
 |g::b,d=>by
  have l:qX b≠0:=by
   have i:∀{b:E (E V)},(∀g∈b,Go.El.aL g)->qX b≠0:=by
    intro b;induction b with
    |nil=>intro _;exact pY
    |cons g b m=>intro d;exact oA (p7<|d g ax).ne<|m λx hx=>d x k7
   exact i λx hx=>d x k7
  rw[gM,pC,qX,atm (p7<|d g ax).ne l,ahi k<|d g ax,ahk k λx hx=>d x k7]
def jW.unG(m:jW a){b}(i:∀k∈b,Go.El.aL k/\Rx.bw (Rx.zx k))(n:Rx.qX b=Rx.zx (dx a)):(∀u∈b.map (lK<|ef a),I u (Z u-1) 0=1/\bM u/\Mo (lx u)/\bw (lx u))/\pC (b.map<|lK<|ef a)=lx a:=by
 have l:0<ef a:=Ed a _;refine⟨λu p=>?_,?_⟩
 .obtain⟨g,f,rfl⟩:=kf.1 p;let ⟨d,g2⟩:=i g f;rw[ahi l d];exact⟨ahj d,.inr (by rw[ahj d];decide),atk (uU<|LK a)<|p7 d,ato (uU<|LK a) g2⟩
 .rw[ahk l λg f=>(i g f).1,n,m.zx,atn (LK a)]
end
end Go.El
namespace Go.El
open Go Go.Proofs Fx
def ahl{x a}:eE x a<=0↔x<=a:=by
 unfold eE;split
 .omega
 .split<;>omega
end Go.El
namespace Go.El
open Go Go.Proofs
def X'(a:E U)(b:∀i,QS 20 (I a i 0)):∀i,aK (20*i+1) ((iU a i:G):V)
 |0=>aK.one (a:=1) o
 |i+1=>by have f:=X' a b i;have g:=(b i).d;have l:iU a (i+1)<=iU a i*(I a i 0).den:=ja _<|Nat.div_le_self _ _;have k:=f.mul g;rw[<-fP]at k;unfold aK at*;rw[pe]at*;rw[(Y:20*(i+1)+1=20*i+1+20)];omega
def q7{a:Type}(f:G->a)(d:a)(n b:G):E a:=(cy n).map λk=>if n<=k+b then f k else d
def atv{a:Type}(f:G->a) d n b:Z (q7 f d n b)=n:=by simp[q7]
def atw{a:Type}(f:G->a) d n:List.replicate n d=q7 f d n 0:=by
 refine vz (by simp[q7]) λi g b=>?_
 simp[q7]at b⊢;omega
def ahm{g:Type}(f:G->g) d{n a}(l:a<n):(q7 f d n a).set (n-1-a) (f<|n-1-a)=q7 f d n (a+1):=by
 refine vz (by simp[q7]) λi m k=>?_
 rw[List.getElem_set];simp only[q7,CA,M4];simp only[q7,c7,qR]at k;by_cases e:n-1-a=i
 .subst e;rw[q J,q Y]
 .rw[j e];by_cases b:n<=i+a
  .rw[q b,q Y]
  .rw[j b,j Y]
def atx{a:Type}(f:G->a) d n:q7 f d n n=(cy n).map f:=by
 refine vz (by simp[q7]) λi b g=>?_
 simp[q7]
def ahn{g:E V}:∀{l:E (E V)},g∈l->Rx.zx g∣Rx.qX l
 |f::l,a=>by
  rw[Rx.qX];rcases b9.1 a with rfl|a
  .exact Rx.nU _ _
  .exact Rx.eW (ahn a) _
def aho:∀{l:E (E V)},(∀g∈l,Rx.bw (Rx.zx g))->Rx.qX l≠0/\Z l+1<=Rx.sz (Rx.qX l)
 |[],_=>⟨Rx.pY,by rw[Rx.qX,Rx.pn];exact aN _⟩
 |g::l,b=>by
  let ⟨i1,i2⟩:=aho (l:=l) λx hx=>b x k7
  have a:=b g ax;have:=Rx.dV a.ne i1;have:=a.1;rw[Rx.qX];exact⟨Rx.oA a.ne i1,QQ⟩
def sr(a b:E U):G->V
 |0=>0
 |i+1=>if px (I a i 0) (I b i 0)≠0 then px (I a i 0) (I b i 0)else sr a b i
def jX(a b:E U):V:=if Z a≠Z b then q6 (Z a) (Z b)else sr a b (Z a)
abbrev zS:E U×V:=([],0)
def HI(x a:E U×V):V:=jX x.1 a.1
structure HJ(w:G)(x:E U×V):Prop where
 l:x.1.length<=1000
 q:∀i,QS w (x.1.getD i 0)
open Rx
def CD.le{a b N}{A}(d:CD a b A)(k:b<=N):CD a N A:=⟨d.1,λi=>by let ⟨z,f,h2⟩:=d.2 i;exact⟨z,bZ f k,h2⟩⟩
def CD.low{b d f}{A}(g:CD b f A)(m:d∣b)(n:dt (K ((d:G):U)*A)):CD d f A:=by
 obtain⟨j,rfl⟩:=m;have t:=g.1;have p:0<d:=pT λe=>by subst e;omega
 have j0:0<j:=pT λe=>by subst e;omega
 refine⟨p,λi=>?_⟩;let ⟨z,k,h2⟩:=g.2 i;have a:=n.at i;rw[eF]at a;refine⟨_,?_,a⟩;generalize nu (K ((d:G):U)*A) i=y at*;have l:((j:V):U)*(y:U)=(z:U):=by rw[<-h2,<-a,xU,pq];grind
 rw[<-fW]at l;have s:(j:V)*y=z:=xV.1 l;rw[<-s,pX]at k;have:1*aD y<=j*aD y:=eB _ j0;have e:aD ((j:V))=j:=rfl;rw[e]at k;omega
def aty{A}{a}(d:∀i,aD (A i)<=a):∀n,Rx.oU n A<=(((n+1)*a:G):V):=by
 intro n;have b:∀k,sm (λi=>(aD (A i):V)) k<=((k*a:G):V):=by
  intro k;induction k with
  |zero=>simp[sm]
  |succ k f=>
   rw[sm]
   have:=d k
   rw[fZ,hY]
   omega
 exact b<|n+1
def CD.div{t b}{A D}(hA:Mo A)(u:Mo D)(hd:D∣A)(T:CD t b A):∃d,Dn D d/\d∣t/\CD d (2^(sz A-1)*(sz A*b)) D:=by
 obtain⟨E,rfl⟩:=hd;have hE:Mo E:=hA.zu u;let ⟨d,a⟩:=K1 D;let ⟨e,f⟩:=K1 E;let ⟨n,v⟩:=K1<|E*D;have W:=afn hE u f a v;have g:=v.dvd t T.int;have x:d∣t:=Hj ⟨e,by rw[W,ic]⟩ g;have C:=T.low g v.int;have O:=dV hE.ne u.ne;have R:=fe hE.ne;have s2:=fe u.ne;refine⟨d,a,x,a.pos,λi=>⟨nu (K ((d:G):U)*D) i,?_,by rw[<-eF];exact a.int.at i⟩⟩;have X:∀{m:G}{B:Rx},0<m->sz (K ((m:G):U)*B)<=sz B:=λ_=>pj λi r=>by rw[eF,jT r,dU]
 have w:nu (K ((e:G):U)*E) (sz E-1)≠0:=λy=>by have p:=f.int.at<|sz E-1;rw[eF,y]at p;have H:E (sz E-1)=1:=hE;rw[H,lF]at p;exact xS (WH.1 f.pos) p
 have N:=afq (A:=nu<|K ((d:G):U)*D) (B:=nu<|K ((e:G):U)*E) (k:=sz D-1) (l:=sz E-1) (λj F=>Bs<|by have:=X (B:=D) a.pos;omega) (λj F=>Bs<|by have:=X (B:=E) f.pos;omega) w i;have I:nu (K ((d:G):U)*D)*nu (K ((e:G):U)*E)=nu (K ((n:G):U)*(E*D)):=by rw[<-DN a.int f.int];congr 1;rw[W,xU,dL];ac_rfl
 rw[I]at N;have J:∀i,aD (nu (K ((n:G):U)*(E*D)) i)<=b:=λi=>by let ⟨z,p,H⟩:=C.2 i;have q:=v.int.at i;rw[eF,H]at q;rw[<-xV.1 q];exact p
 have s:=aty J<|sz D-1+(sz E-1);rw[(Y:sz D-1+(sz E-1)=sz (E*D)-1)]at N s;have P:(0:V)<=2^(sz (E*D)-1):=Int.le_of_lt<|ow o;have Q:=uN N<|l6 s P;rw[(Y:sz (E*D)-1+1=sz (E*D))]at Q;have L:(2:V)^(sz (E*D)-1)*((sz (E*D)*b:G):V)=((2^(sz (E*D)-1)*(sz (E*D)*b):G):V):=by rw[fP (2^(sz (E*D)-1)),wj];rfl
 rw[L]at Q;exact P6.1 Q
def CD.ht{a b N}{A}(h:CD a b A)(d:a<=N)(f:b<=N):Ht N A:=⟨(a:V),DE,d,λi=>by let ⟨z,g,h2⟩:=h.2 i;exact⟨z,bZ g f,h2⟩⟩
def atz a:dt (K ((ef a:G):U)*lx a):=dt.of λi=>by
 by_cases d:i<Z a
 .refine⟨(I a i 0).num*((ef a:G):V)/((I a i 0).den:V),?_⟩;have b:(I a i 0).den∣ef a:=HG a _ i d;rw[Re _ (zf.2 b),eF,eG];rfl
 .exact⟨0,by rw[eF,eG,gk a Y,dU];rfl⟩
def atB{a}{d m b t}(g:CD d m (lx a))(f:I a (Z a-1) 0=1)(p:d<=2^b)(s:m<=2^t)(N:(Z a-2)*b+t<=767) i:aK 24 (I (dx a) i 0):=by
 unfold aK;by_cases k:i<Z a
 .by_cases v:i=Z a-1
  .subst v;rw[Rb a k,f,jA,qN];exact nZ (t:=0) o
  .have x:=g.low (X8 g)<|atz a;let ⟨z,A,h2⟩:=x.2 i;rw[eG]at h2;have B:ef a<=2^b:=bZ (uG g.1<|X8 g) p;obtain⟨j,C⟩:∃j,Z a-1-i=j+1:=⟨Z a-1-i-1,Y⟩;have D:(I a i 0).num*((ef a:G):V)^(j+1)/((I a i 0).den:V)=((ef a:G):V)^j*z:=by
    refine xV.1 ?_;have l:((I a i 0).den:V)∣((ef a:G):V)^(j+1):=by rw[gG];exact K2 (zf.2<|HG a _ i k)<|DX _ _
    rw[Re _ l,fW,<-h2,gG,fW,pq];grind
   rw[Rb a k,C,D,pX,Int.natAbs_pow,pe];have H:ef a^j<=2^(b*j):=by rw[G4];exact zA B j
   have K:b*j<=(Z a-2)*b:=by rw[ic];exact eB _ Y
   have n:ef a^j*aD z<=2^(b*j)*2^t:=jQ H<|bZ A s;rw[<-kv]at n;exact tm n<|nZ Y
 .rw[fQ _ (by rw[Ee];omega)];exact ko o
def fH:E (E U×V)->Rx
 |[]=>1
 |x::l=>pk (lx x.1) (ah x.2)*fH l
def q8:E (Rx×V)->Rx
 |[]=>1
 |x::l=>pk x.1 (ah x.2)*q8 l
def ahp:∀l m,fH (l++m)=fH l*fH m
 |[],m=>by rw[tZ,fH,cY]
 |x::l,m=>by rw[lO,fH,fH,ahp l m,c9]
def ahq:∀l m,q8 (l++m)=q8 l*q8 m
 |[],m=>by rw[tZ,q8,cY]
 |x::l,m=>by rw[lO,q8,q8,ahq l m,c9]
def ahr:∀l:E (E U×V),fH l=q8 (l.map λp=>(lx p.1,p.2))
 |[]=>rfl
 |x::l=>by rw[gM,fH,q8,ahr l]
def atC{l m}(a:l.Perm m):fH l=fH m:=by
 induction a with
 |nil=>rfl
 |cons x _ b=>rw[fH,fH,b]
 |swap x y l=>rw[fH,fH,fH,fH];ac_rfl
 |trans _ _ i1 i2=>exact i1.trans i2
structure BO(a:E U)(fs:E (E U×V)):Prop where
 ok:∀x∈fs,x.1.getD (x.1.length-1) 0=1/\bw (lx x.1)/\1<=x.2
 prod:fH fs=lx (eZ a)
 uL:fs.Pairwise (λx b=>x.1≠b.1)
 adj:gAd zS HI fs (fs.length-1)
def ahs(d:G->G)(a:G):∀b,pk (pF d b) a=pF (λm=>d m*a) b
 |[]=>DJ a
 |x::b=>by rw[pF,pF,wA,ahs d a b,wz]
def Ya{a}(b:FL a)(d:G->G):Mo (pF d a):=xR b.mo
def aht{a:E (Rx×G)}(b:FL a):∀(k n:G),q8 (pB a k n)=pF (λm=>if n<=m/\m<n+k then m else 0) a
 |0,n=>by rw[pB,q8];exact(PY λx _=>j Y).symm
 |k+1,n=>by
  have g:q8 (if 1<sz (pF (kP n) a)then[(pF (kP n) a,(n:V))]else[])=pk (pF (kP n) a) n:=by
   split
   .rw[q8,q8,fv,cx]
   .rename_i i;have d:=Ya b<|kP n;have:=fe d.ne;rw[d.unit Y,DJ,q8]
  rw[pB,ahq,g,aht b k<|n+1,ahs,<-DL];refine zv λx _=>?_
  unfold kP;by_cases e:x.2=n
  .rw[q e,j Y,q Y];omega
  .rw[j e];by_cases f:n+1<=x.2/\x.2<n+1+k
   .rw[q f,q Y];omega
   .rw[j f,j Y];omega
def Yb{b:E (Rx×G)}:∀{k n:G}{d:Rx×V},d∈pB b k n->∃m:G,n<=m/\d=(pF (kP m) b,(m:V))/\1<sz (pF (kP m) b)
 |0,_,_,a=>by cases a
 |k+1,n,d,a=>by
  rw[pB]at a;rcases bg.1 a with a|a
  .split at a
   .rename_i f;exact⟨n,aN _,iM.1 a,f⟩
   .cases a
  .let ⟨m,f,h2,g⟩:=Yb a;exact⟨m,Y,h2,g⟩
def ahu{L:E (Rx×G)}:∀(k n:G),(pB L k n).Pairwise (λx b=>x.2≠b.2)
 |0,_=>LD
 |k+1,n=>by
  rw[pB];refine zI.2 ⟨?_,ahu k<|n+1,λx a b d=>?_⟩
  .split
   .exact WK _ _
   .exact LD
  .let ⟨m,f,h2,_⟩:=Yb d;split at a
   .rw[iM.1 a,h2];show(n:V)≠(m:V);omega
   .cases a
def atD{a}(b:FL a) m:Co (pF (kP m) a) (bG<|pF (kP m) a):=by
 refine Hf (Ya b _).ne λQ hQ d f=>?_
 let ⟨x,hx,i,h2⟩:=Br hQ d;have g:kP m x.2=1:=by have:=KU m x.2;omega
 exact b.KR (KU m) hx g<|fG (hQ.assoc (b.gI x hx) h2) f
def atF{A}(a:Co A (bG A)){Q}(hQ:2<=sz Q):¬Q*Q∣A:=λ⟨w,e⟩=>by
 have b:Q∣A:=⟨w*Q,by rw[e];ac_rfl⟩;have d:Q∣bG A:=by rw[e,xQ,xQ];refine iI ⟨bG w*Q,fF⟩ ?_;rw[fE];exact iI ⟨w*bG Q,fF⟩ ⟨w*bG Q,fF⟩
 let ⟨U,V,f⟩:=a;have g:Q∣1:=by rw[<-f];exact iI (eW b _)<|eW d _
 have:=dvd_one g;omega
def Ri{u:E U}:∀{l:E (E U)},u∈l->lx u∣pC l
 |v::l,a=>by
  rw[pC];rcases b9.1 a with rfl|a
  .exact nU _ _
  .exact eW (Ri a) _
def ahv:∀{l:E (E U)},(∀u∈l,bw (lx u))->(∀Q:Rx,2<=sz Q->¬Q*Q∣pC l)->l.Pairwise (·≠·)
 |[],_,_=>LD
 |v::l,b,d=>by refine kI.2 ⟨λu a f=>?_,ahv (λu a=>b u<|by simp[a]) λQ hQ g=>d Q hQ<|eW g _⟩;subst f;exact d (lx v) (b v ax).1<|zt (oD _)<|Ri a
def ahw(m:V):∀l:E (E U),fH (l.map λu=>(u,m))=pk (pC l) (ah m)
 |[]=>(DJ _).symm
 |u::l=>by rw[gM,fH,pC,wA,ahw m l]
def gO(ir:E U->E (E U))(a:E (E U×V)):E (E U×V):=a.flatMap λp=>(ir p.1).map λu=>(u,p.2)
def ahx{ir:E U->E (E U)}:∀{a:E (E U×V)},(∀p∈a,pC (ir p.1)=lx p.1)->fH (gO ir a)=fH a
 |[],_=>rfl
 |p::a,b=>by rw[gO,lQ,ahp,ahw,b p ax,fH];exact bl _ (ahx λd f=>b d<|by simp[f])
def ahy:∀{l:E (E U×V)},(∀x∈l,bw (lx x.1)/\1<=x.2)->fH l≠0/\Z l+1<=sz (fH l)
 |[],_=>⟨pY,by rw[fH,pn];exact aN _⟩
 |x::l,a=>by
  let ⟨i1,i2⟩:=ahy (l:=l) λy hy=>a y qD
  let ⟨d,h2⟩:=a x ax;have f:=XJ d.1<|ah x.2;have b:pk (lx x.1) (ah x.2)≠0:=λe=>by rw[e,je]at f;omega
  have:=dV b i1;rw[fH];exact⟨oA b i1,QQ⟩
def ahz{x:E U×V}:∀{l:E (E U×V)},x∈l->1<=x.2->lx x.1∣fH l
 |f::l,a,b=>by
  rw[fH];rcases b9.1 a with rfl|a
  .obtain⟨n,d⟩:∃n,ah x.2=n+1:=⟨ah x.2-1,Y⟩;rw[d];exact nj (jd _ _) _
  .exact eW (ahz a b) _
def Yc a b:px a b= -px b a:=by
 unfold px;by_cases d:a<b
 .rw[q d,j<|Rat.not_lt.2<|Rat.le_of_lt d,q d]
 .rw[j d];by_cases h2:b<a
  .rw[q h2,q h2];rfl
  .rw[j h2,j h2,j d];rfl
def ahA(a b:E U):∀i,sr a b i= -sr b a i
 |0=>rfl
 |i+1=>by
  rw[sr,sr,Yc (I b i 0)<|I a i 0,ahA a b i];generalize px (I a i 0) (I b i 0)=z;by_cases f:z=0
  .rw[j (λd=>d f),j<|λd=>d Y]
  .rw[q f,q Y];omega
def atG a b:jX a b= -jX b a:=by
 unfold jX;by_cases h:Z a=Z b
 .rw[j (λe=>e h),j<|λe=>e h.symm,ahA,h]
 .rw[q h,q<|λe=>h e.symm,atg]
def ahB x a:HI x a= -HI a x:=atG _ _
structure oJ(a:E U):Prop where
 can:bM a
 ne:a≠[]
 l9:a.length<=9
 hA:Ht (2^1500) (lx a)
 sz:∃c e h:G,CD c (2^h) (lx<|eZ a)/\c<=2^e/\e<=600/\(a.length-2)*e+(h+12)<=767/\h+12<=600/\(2*(a.length-2)+1)*(h+20+e)<=3089
section
variable{a:E U}
def oJ.mo(b:oJ a):Mo (lx<|eZ a):=XE b.can b.ne
def oJ.LL(b:oJ a):Rx.sz (lx<|eZ a)=Z a:=by rw[eJ (uT a),QO b.can]
def oJ.div(f:oJ a){D}(i:Mo D)(l:D∣lx (eZ a)):∃d b t,CD d (2^t) D/\d<=2^b/\b<=600/\(Z a-2)*b+t<=767/\t<=600/\(2*(Z a-2)+1)*(t+8+b)<=3089:=by let ⟨c,b,k,g,h2,m,n,p⟩:=f.sz;let ⟨d,_,d2,d3⟩:=g.div f.mo i l;refine⟨d,b,k+12,d3.le ?_,bZ (uG g.1 d2) h2,m,n,p⟩;rw[f.LL];have s:=f.l9;have u:2^(Z a-1)<=2^8:=eU o Y;have v:Z a*2^k<=9*2^k:=eB _ s;have x:=jQ u v;rw[kv];omega
def oJ.ht(b:oJ a){D}(f:Mo D)(g:D∣lx (eZ a)):Ht (2^600) D:=by let ⟨d,e,t,i,h2,k,_,l,_⟩:=b.div f g;exact i.ht (bZ h2<|Ly 600 k)<|Ly 600 Y
def oJ.qs(b:oJ a){D}(d:Mo D)(f:D∣lx (eZ a)) i:QS 20 (D i):=(b.ht d f).qs (nZ (t:=600) Y) i
def ahC{b}(d:bM b)(f:Mo (lx b)):I b (Z b-1) 0=1:=by have:=f;rw[Mo,eJ d]at this;exact this
def Ef{b}(d:I b (Z b-1) 0=1):bM b/\Mo (lx b):=by have f:bM b:= .inr (by rw[d];decide);exact⟨f,by rw[Mo,eJ f];exact d⟩
def le30{n:G}(h:n<=3089):2^n<=zB:=by
 have k:∀m,m=3089->2^n<=2^m:=λm e=>eU o (e▸h)
 have:=k _ J;unfold zB;exact this
def oJ.irH(f:oJ a){b}(k:bM b)(g:Mo (lx b))(l:lx b∣lx (eZ a))(p:2<=Z b)(s:Co (lx b) (bG<|lx b)):jW b/\∀i,QS 20 (I b i 0):=by
 have z:Z b<=Z a:=by have:=kX l f.mo.ne;rwa[eJ k,f.LL]at this
 have A:=f.l9;let ⟨d,e,t,m,n,B,C,u,v⟩:=f.div g l;have D:(Z b-2)*e<=(Z a-2)*e:=eB _ Y;refine⟨⟨ahC k g,p,Y,s,λi=>atB m (ahC k g) n (aN _) Y i,d,2^t,m,?_⟩,λi=>f.qs g l i⟩;have x:2*((2*(Z b-2)+2)*((Z b-2+1)*2^t))<=2^(t+8):=by have:=jQ (Y:2*(Z b-2)+2<=16) (Y:Z b-2+1<=8);rw[<-tn (2*(Z b-2)+2),<-tn,kv,ic<|2^t];exact eB _ Y
 rw[<-Nat.mul_pow];refine bZ (zA (jQ x n) _) ?_;rw[<-kv,<-G4,ic];exact le30<|bZ (eB _ Y) v
def atI{b}{m}(d:1<=m):pF (kP m) b∣pF id b:=by
 have e:pF id b=pF (λk=>(k-kP m k)+kP m k) b:=zv λx _=>by show x.2=_;unfold kP;split<;>omega
 rw[e,DL];exact jd _ _
def oJ.atJ(B:oJ a){ir:E U->E (E U)}(hI:∀z,jW z->(∀i,QS 20 (I z i 0))->(∀u∈ir z,I u (Z u-1) 0=1/\bM u/\Mo (lx u)/\bw (lx u))/\pC (ir z)=lx z){D}(A:FL D)(hF:pF id D=lx (eZ a)){b}(H:b.map (λp=>(lx p.1,p.2))=pB D (Z a) 1)(hq:∀p∈b,bM p.1):
  (∀p∈b,jW p.1/\(∀i,QS 20 (I p.1 i 0))/\1<=p.2)/\Z (gO ir b)<=8/\(∀x∈gO ir b,HJ 20 x)/\(∀x∈gO ir b,I x.1 (Z x.1-1) 0=1/\bw (lx x.1)/\1<=x.2)/\fH (gO ir b)=lx (eZ a)/\(gO ir b).Pairwise (λx k=>x.1≠k.1):=by
 have C:∀p∈b,∃m:G,1<=m/\lx p.1=pF (kP m) D/\p.2=(m:V)/\2<=Z p.1:=λp l=>by
  have T:(lx p.1,p.2)∈pB D (Z a) 1:=by rw[<-H];exact Rj (f:=λp:E U×V=>(lx p.1,p.2)) l
  let ⟨m,m1,K,X⟩:=Yb T;let ⟨e1,e2⟩:=Prod.mk.inj K;refine⟨m,m1,e1,e2,?_⟩;rw[<-e1,eJ<|hq p l]at X;exact X
 have d:∀p∈b,jW p.1/\(∀i,QS 20 (I p.1 i 0))/\1<=p.2:=λp l=>by
  let ⟨m,m1,K,X,m4⟩:=C p l;have hm:Mo (lx p.1):=by rw[K];exact Ya A _
  let ⟨i1,i2⟩:=B.irH (hq p l) hm (by rw[K,<-hF];exact atI m1) m4 (by rw[K];exact atD A m);exact⟨i1,i2,Y⟩
 have S:∀x∈gO ir b,∃p∈b,x.1∈ir p.1/\x.2=p.2:=λx s=>by let ⟨p,l,s⟩:=iY.1 s;obtain⟨u,W,rfl⟩:=kf.1 s;exact⟨p,l,W,J⟩
 have N:∀x∈gO ir b,I x.1 (Z x.1-1) 0=1/\bw (lx x.1)/\1<=x.2:=λx s=>by let ⟨p,l,T,M⟩:=S x s;let ⟨i1,_,i2,i3⟩:=(hI p.1 (d p l).1 (d p l).2.1).1 _ T;exact⟨i1,i3,by rw[M];exact(d p l).2.2⟩
 have t:fH (gO ir b)=lx (eZ a):=by
  rw[ahx λp l=>(hI p.1 (d p l).1 (d p l).2.1).2,ahr,H,aht A,<-hF];refine zv λx s=>?_
  have T:=A.pos x s;have M:=XK A s;rw[hF,B.LL]at M;exact q Y
 have c:Z (gO ir b)<=8:=by have:=(ahy λx s=>(N x s).2).2;rw[t,B.LL]at this;have:=B.l9;omega
 have j:(gO ir b).Pairwise (λx k=>x.1≠k.1):=by
  have Rk:b.Pairwise (λx k=>x.2≠k.2):=by have:=ahu (L:=D) (Z a) 1;rw[<-H]at this;exact(Hl (R:=λx k:Rx×V=>x.2≠k.2)).1 this
  have go:∀{o:E (E U×V)},(∀p∈o,p∈b)->o.Pairwise (λx k=>x.2≠k.2)->(gO ir o).Pairwise (λx k=>x.1≠k.1):=by
   intro o;induction o with
   |nil=>intro _ _;exact LD
   |cons p o ih=>
    intro H l
    let ⟨p1,p2⟩:=kI.1 l
    have g:=H p ax
    refine zI.2 ⟨?_,ih (λz hq=>H z<|by simp[hq]) p2,λx s k hy e=>?_⟩
    .let ⟨i1,i2⟩:=hI p.1 (d p g).1 (d p g).2.1;refine Hl.2<|ahv (λu W=>(i1 u W).2.2.2) λQ hQ r=>?_;rw[i2]at r;exact atF (d p g).1.co hQ r
    .obtain⟨u,W,rfl⟩:=kf.1 s;let ⟨z,w,hy'⟩:=iY.1 hy;obtain⟨v,hv,rfl⟩:=kf.1 hy';have e:u=v:=e;subst e;have P:=H z (by simp[w]);let ⟨m,m1,K,X,_⟩:=C p g;let ⟨n,n1,n2,n3,_⟩:=C z P;let ⟨i1,i2⟩:=hI p.1 (d p g).1 (d p g).2.1;let ⟨j1,j2⟩:=hI z.1 (d z P).1 (d z P).2.1;let ⟨_,_,um,O⟩:=i1 u W;have d1:lx u∣pF (kP m) D:=by rw[<-K,<-i2];exact Ri W
     have d2:lx u∣pF (kP n) D:=by rw[<-n2,<-j2];exact Ri hv
     let ⟨x,x1,x2,x3⟩:=Br O d1;let ⟨k,y1,y2,y3⟩:=Br O d2;have ex:=O.eq (A.gI x x1) um (A.mo x x1) x3;have ey:=O.eq (A.gI k y1) um (A.mo k y1) y3;have kx:x.2=m:=WB.1 (by have:=KU m x.2;omega);have ky:k.2=n:=WB.1 (by have:=KU n k.2;omega);by_cases F:x=k
     .refine p1 z w ?_;rw[X,n3,<-kx,<-ky,F]
     .exact FL.WA A.uL x1 y1 F (by rw[<-ex,<-ey])
  exact go (λp l=>l) Rk
 refine⟨d,c,λx s=>?_,N,t,j⟩
 .let ⟨T,M,h3⟩:=N x s;let ⟨h4,h5⟩:=Ef T;have r:lx x.1∣lx (eZ a):=by rw[<-t];exact ahz s h3
  have hl:=kX r B.mo.ne;rw[eJ h4,B.LL]at hl;have:=B.l9;exact⟨Y,λi=>B.qs h5 r i⟩
end
end Go.El
namespace Go.El
open Go Go.Proofs
def ahD{L:E (Rx×G)}:∀k n,Z (pB L k n)<=k
 |0,_=>aN _
 |k+1,n=>by
  have:=ahD (L:=L) k<|n+1;rw[pB,iL];split
  .rw[oV];omega
  .rw[ug];omega
open Rx
def atM a:lx [-a,1]=X 1-K a:=by rw[zo,KK,jE,fv,Bq,eY,js]
def ahE a:sz (X 1-K a)=2:=by rw[<-atM,eJ (.inr (by show(1:U)≠0;decide))];rfl
def ahF{Q:Rx}(hQ:bw Q):∀{l:E (E U×V)},Q∣fH l->∃x∈l,Q∣lx x.1
 |[],a=>aJ a hQ.zs
 |x::l,a=>by
  rw[fH]at a;rcases hQ.nW a with b|b
  .exact⟨x,ax,(hQ.pk b).2⟩
  .let ⟨d,h1,h2⟩:=ahF hQ b;exact⟨d,zw,h2⟩
def Yd{a}(l:Mo a)(g:dt a)(m:2<=sz a)(i:∀u v:Rx,Mo u->Mo v->dt u->dt v->a=u*v->2<=sz u->sz u<=sz v->False):bw a:=by
 refine⟨m,λA B e=>eR λk=>?_⟩;let ⟨u,v,b,d,f,n,p⟩:=Xf l e (λe=>k<|.inl e)<|λe=>k<|.inr e;rw[f]at g;let ⟨i1,i2⟩:=Qt b d g;rcases Nat.le_total (sz u) (sz v)with hl|hl
 .exact i u v b d i1 i2 f n hl
 .exact i v u d b i2 i1 (f.trans<|Rx.c8 u v) p hl
def Eg l i:lx (l.map iQ) i=((I l i 0:V):U):=by rw[eG,aO,jn,aO];cases l[i]? <;>rfl
def Ye(l:E V):dt (lx<|l.map iQ):=dt.of λi=>⟨_,Eg l i⟩
def atN l i:nu (lx<|l.map iQ) i=I l i 0:=by show(lx (l.map iQ) i).num=_;rw[Eg];rfl
def ahG{l}{n}(a:Z l=n+1)(b:I l n 0=1):bM (l.map iQ):=by refine .inr ?_;rw[c7,a,eD];have:=Eg l n;rw[eG]at this;rw[this,b];decide
def BP{l}{n}(a:Z l=n+1)(b:I l n 0=1):sz (lx<|l.map iQ)=n+1:=by rw[eJ (ahG a b),c7,a]
def Yf{l}{n}(b:Z l=n+1)(a:I l n 0=1):Mo (lx<|l.map iQ):=by show lx (l.map iQ) (sz (lx<|l.map iQ)-1)=1;rw[BP b a,eD,Eg,a];rfl
def BQ{a b m}(d:m=a*b)(f:m≠0):aD a<=aD m:=by
 rw[d,pX];have:b≠0:=λe=>f (by rw[d,e,iy])
 exact Ke _ Y
def BR{A}(a:Mo A){n}(b:sz A=n+1):nu A n=1:=by show(A n).num=1;rw[a.at b];rfl
section
variable{l:E V}{u v:Rx}
def zT(b:dt u)(d:dt v)(f:lx (l.map iQ)=u*v) i:I l i 0=sm (λa=>nu u a*nu v (i-a)) (i+1):=by rw[<-atN,f,DN b d,PS.fV]
end
def Yg{l}{d f}(s:l=[d,f,1])(t:∀a b:V,d=a*b->f=a+b->False):bw (lx<|l.map iQ):=by subst s;refine Yd (Yf (n:=2) J J) (Ye _) (by rw[BP (n:=2) J J];decide) ?_;intro u v g i k m e H s2;have x:=dV g.ne i.ne;rw[<-e,BP (n:=2) J J]at x;have z:sz u=1+1:=Y;have A:sz v=1+1:=Y;have B:=BR g z;have C:=BR i A;have p:=zT k m e 0;have D:=zT k m e 1;simp[sm,B,C]at p D;exact t (nu u 0) (nu v 0) p Y
def ahH{l}{g i k}(A:l=[g,i,k,1])(B:∀a b m:V,g=a*m->i=a*b+m->k=a+b->False):bw (lx<|l.map iQ):=by subst A;refine Yd (Yf (n:=3) J J) (Ye _) (by rw[BP (n:=3) J J];decide) ?_;intro u v p s d f e Q s2;have C:=dV p.ne s.ne;rw[<-e,BP (n:=3) J J]at C;have D:sz u=1+1:=Y;have H:sz v=2+1:=Y;have K:=BR p D;have N:=BR s H;have P:nu u 2=0:=Bs Y;have t:=zT d f e 0;have x:=zT d f e 1;have z:=zT d f e 2;simp[sm,K,N,P]at t x z;exact B (nu u 0) (nu v 1) (nu v 0) t x z
def ahI{l}{m p s t}(Q:l=[m,p,s,t,1])(T:∀a b f d:V,m=a*d->p=a*f+d->s=a*b+f->t=a+b->False)(W:∀a b f d:V,m=b*d->p=b*f+a*d->s=b+a*f+d->t=a+f->False):bw (lx<|l.map iQ):=by
 subst Q;refine Yd (Yf (n:=4) J J) (Ye _) (by rw[BP (n:=4) J J];decide) ?_;intro u v x z g i e q s2;have X:=dV x.ne z.ne;rw[<-e,BP (n:=4) J J]at X;have k:=zT g i e 0;have A:=zT g i e 1;have B:=zT g i e 2;have C:=zT g i e 3;by_cases D:sz u=1+1
 .have H:sz v=3+1:=by omega
  have j:=BR x D;have K:=BR z H;have N:nu u 2=0:=Bs Y;have P:nu u 3=0:=Bs Y;simp[sm,j,K,N,P]at k A B C;exact T (nu u 0) (nu v 2) (nu v 1) (nu v 0) k A B C
 .have D:sz u=2+1:=by omega
  have H:sz v=2+1:=Y;have N:=BR x D;have o:=BR z H;have P:nu u 3=0:=Bs Y;have K:nu v 3=0:=Bs Y;simp[sm,N,o,P,K]at k A B C;exact W (nu u 1) (nu u 0) (nu v 1) (nu v 0) k Y Y Y
def ahJ{a k}(b:a*a=k)(f:k<36):∃n:G,n<=5/\(n:V)*n=k:=by
 refine⟨aD a,?_,by rw[atO a];exact b⟩;refine eR λg=>?_
 have d:6<=aD a:=Y;have:=jQ d d;have i:((aD a*aD a:G):V)=k:=by rw[fP,atO a];exact b
 omega
def atP:bw (lx<|([-2,0,1]:E V).map iQ):=Yg J λa b d f=>by have g:=BQ d o;have:a= -2\/a= -1\/a=0\/a=1\/a=2:=Y;rcases this with rfl|rfl|rfl|rfl|rfl<;>omega
def atQ:bw (lx<|([1,0,1]:E V).map iQ):=Yg J λa b d f=>by have g:=BQ d o;have:a= -1\/a=0\/a=1:=Y;rcases this with rfl|rfl|rfl<;>omega
def atS:bw (lx<|([-2,0,0,1]:E V).map iQ):=ahH J λa b c d f g=>by have i:=BQ d o;have:a= -2\/a= -1\/a=0\/a=1\/a=2:=Y;rcases this with rfl|rfl|rfl|rfl|rfl<;>omega
def atT:bw (lx<|([1,1,1]:E V).map iQ):=Yg J λa b d f=>by have g:=BQ d o;have:a= -1\/a=0\/a=1:=Y;rcases this with rfl|rfl|rfl<;>omega
def atU:bw (lx<|([-1,-1,0,1]:E V).map iQ):=ahH J λa b c d f g=>by have i:=BQ d o;have:a= -1\/a=0\/a=1:=Y;rcases this with rfl|rfl|rfl<;>omega
def ahK{a b f d m}(g:1=b*d)(i:m=b+a*f+d)(s:0=a+f)(t:m=0\/m= -10):False:=by
 have u:=BQ g o;have e:f= -a:=Y;subst e;rw[Int.mul_neg]at i;have:b= -1\/b=0\/b=1:=Y;rcases this with rfl|rfl|rfl
 .have:d= -1:=by omega
  subst this;obtain⟨n,l,p⟩:=ahJ (a:=a) (k:= -2-m) Y Y;have:n=0\/n=1\/n=2\/n=3\/n=4\/n=5:=Y;rcases this with rfl|rfl|rfl|rfl|rfl|rfl<;>omega
 .omega
 .have:d=1:=by omega
  subst this;obtain⟨n,l,p⟩:=ahJ (a:=a) (k:=2-m) Y Y;have:n=0\/n=1\/n=2\/n=3\/n=4\/n=5:=Y;rcases this with rfl|rfl|rfl|rfl|rfl|rfl<;>omega
def atV:bw (lx<|([1,0,0,0,1]:E V).map iQ):=ahI J (λa b c d f k g i=>by have l:=BQ f o;have:a= -1\/a=0\/a=1:=Y;rcases this with rfl|rfl|rfl<;>omega) λa b c d f k g i=>ahK f g i<|.inl J
def atW:bw (lx<|([1,0,-10,0,1]:E V).map iQ):=ahI J (λa b c d f k g i=>by have l:=BQ f o;have:a= -1\/a=0\/a=1:=Y;rcases this with rfl|rfl|rfl<;>omega) λa b c d f k g i=>ahK f g i<|.inr J
def atX:bw (lx<|([-3,1]:E V).map iQ):=atc<|BP (n:=1) J J
def atY{b:Type}{l}{i}(d:b)(a:i<Z l):I l i d∈l:=by rw[aO,cT a];exact sW a
def atZ(l:E (V×V×V))(a:G)(g:a<=1000)(n:∀x∈l,p' x):aq r 13 [S RW l,y a] (S .q<|BM l a):=by
 refine aS Tryz.func13<|xj 0 J λk=>?_;have k:Z l*3<=140737488355328:=k;refine e J<|w<|ij .q [] J J (O J<|h<|e J ?_);refine aA<|bx (α:=G) (λi=>⟨[(0,S RW l),(1,y a),(5,.c<|.X 1000000),(6,y i)],[(1000000,.vec 44 .q<|(c i l).map so)],3,[]⟩) (λi=>i<=Z l/\i<=a+1) (λi=>Z l-i) 0 ⟨bm _,bm _⟩ aY ?_;rintro i ⟨t,p⟩;refine h<|w<|rg 12 J J (λb=>?_)<|λb=>?_
 .have b:i<Z l:=by have b:(i:V)<(Z l:V):=aX b;omega
  refine O J<|F J (λh2=>?_)<|λh2=>?_
  .have h2:i<=a:=by have h2:(i:V)<=a:=aX h2;omega
   have d:=Q3 so (0,0,0) l i b;have s:=n (I l i (0,0,0))<|atY _ b;have m:=as8 (I l i (0,0,0)) s;rw[show I l i (0,0,0)=I l (ah (i:V)) RW.et by rw[cx]]at m d;refine aG<|h<|aA<|cL<|rc J J m (rl .q [so (I l (ah (i:V)) RW.et)] J J (ra J J J J J J J J J ?_ ?_<|O J<|bU<|rt J<|a6 (i+1) ⟨Y,Y⟩ zO<|Wk.trans (wk (st':=⟨[(0,S RW l),(1,y a),(5,.c<|.X 4007000),(6,y ((i+1:G):V))],[(4007000,.vec 44 .q<|(c (i+1) l).map so)],6,[]⟩) ⟨sR J,sR J,sR J,sE J ?_,M⟩ ⟨bE J ?_,M⟩)<|Wk.trans (iw 1000000 4007000 J J J) aY)) (hp:=?_)
   .show(_+1+(_+1)/4+192)*64<=_;simp only[c7,hZ];omega
   .show(_+1)*4<=_;simp only[c7,hZ];omega
   .rfl
   .rw[d]
   .simp only[Pr.an,Pr.h,num,gy,true_and,and_true];first|done|omega
  .have h2:¬i<=a:=by have h2:¬(i:V)<=a:=bh h2;omega
   have f:=D6 ((c i l).map so) HB;rw[show gH ((c i l).map so)=BM l a by rw[BM,(Y:i=a+1)]]at f;exact bD<|aR<|dm 1000000 J J J<|bL J J f J<|di J
 .have b:i=Z l:=by have b:¬(i:V)<(Z l:V):=bh b;omega
  have f:=D6 ((c i l).map so) HB;rw[show gH ((c i l).map so)=BM l a by rw[BM,jy Y,jy Y]]at f;refine O J<|F J (λh2=>sc)<|λ_=>?_;exact bD<|aR<|dm 1000000 J J J<|bL J J f J<|di J
def ahL{x}(a:p' x):p' (zN x):=⟨a.1,a.2.1,iD 0,(by decide:(0:V)<=255)⟩
def at0(l:E (V×V×V))(a:G)(f:a<=1000)(k:∀x∈l,p' x):aq r 28 [S RW l,y a] (S .q<|BN l a):=by
 refine aS Tryz.func28<|xj 0 J λg=>?_;have g:Z l*3<=140737488355328:=g;refine e J<|w<|ij RW [] J J (O J<|h<|e J ?_);refine aA<|bx (α:=G) (λi=>⟨[(0,S RW l),(1,y a),(5,.c<|.X 1000000),(6,y i)],[(1000000,.vec 57 RW<|(c i l).map zN)],3,[]⟩) (λi=>i<=Z l) (λi=>Z l-i) 0 (bm _) aY ?_;intro i t;refine h<|e J<|F J (λb=>?_)<|λb=>?_
 .have b:i<Z l:=by have b:(i:V)<(Z l:V):=aX b;omega
  have d:=Q3 zN (0,0,0) l i b;rw[show I l i (0,0,0)=I l (ah (i:V)) RW.et by rw[cx]]at d;refine aG<|h<|aA<|cL<|rl RW [zN (I l (ah (i:V)) RW.et)] J J (ra J J J J J J J J J ?_ ?_<|O J ?_) (hp:=aH)
  .show(_+1+(_+1)/4+192)*3<=_;simp only[c7,hZ];omega
  .show(_+1)*3<=_;simp only[c7,hZ];omega
  .refine bU (rt J (hp:=aH)<|a6 (i+1) b zO<|Wk.trans (wk (st':=⟨[(0,S RW l),(1,y a),(5,.c<|.X 4013000),(6,y ((i+1:G):V))],[(4013000,.vec 57 RW<|(c (i+1) l).map zN)],6,[]⟩) ⟨sR J,sR J,sR J,sE J ?_,M⟩ ⟨bE J ?_,M⟩)<|Wk.trans (iw 1000000 4013000 J J J) aY)
   .rfl
   .rw[d]
 .have b:i=Z l:=by have b:¬(i:V)<(Z l:V):=bh b;omega
  subst b;rw[ik];have m:=atZ (l.map zN) a f (λx n=>by obtain⟨p,s,rfl⟩:=kf.1 n;exact ahL<|k p s);exact bD<|aR<|dm 1000000 J J J<|bL J J m J<|di J
def at1{a}(m:bM a)(g:a≠[]){D B}(u:0<D)(k:∀i,∃z:V,aD z<=B/\((D:G):U)*I a i 0=(z:U)):∃l,l<=B/\CD l B (lx<|eZ a):=by
 have d:((D:G):U)≠0:=xS Y;let ⟨w,n,b⟩:=k<|Z a-1;have p:=m.ne g;have s:w≠0:=λe=>by
  rw[e]at b;rcases zp.1 b with e|e
  .exact d e
  .exact p e
 refine⟨aD w,n,⟨Y,λi=>?_⟩⟩;let ⟨z,t,h2⟩:=k i;rw[BH g,eF,eG];rcases Int.lt_or_gt_of_ne s with f|f
 .refine⟨-z,Y,?_⟩;have e:((aD w:G):U)= -(w:U):=by rw[<-pq,(Y:((aD w:G):V)= -w),zM]
  rw[e,zM,<-h2,<-b];grind
 .refine⟨z,t,?_⟩;have e:((aD w:G):U)=(w:U):=by rw[<-pq,(Y:((aD w:G):V)=w)]
  rw[e,<-h2,<-b];grind
def at2{a}(f:bM a)(g:a≠[])(n:Z a<=9){D}(p:0<D)(d:D<=2^22)(l:∀i,∃z:V,aD z<=2^22/\((D:G):U)*I a i 0=(z:U)):oJ a:=by
 have b:∀{m:G},m<=2^22->m<=2^1500:=λh=>bZ h<|Rx.Ly 1500 (k:=22) o
 let ⟨c,c1,s⟩:=at1 f g p l;refine⟨f,g,n,⟨(D:V),Y,b d,λi=>?_⟩,⟨c,22,22,s,c1,o,Y⟩⟩;let ⟨z,t,h2⟩:=l i;exact⟨z,b t,h2⟩
def zW(u:E U):E (E U×V)->V
 |[]=>0
 |x::l=>if x.1=u then x.2 else zW u l
def ahM{u:E U}(i:I u (Z u-1) 0=1)(b:bw (lx u)):∀{l:E (E U×V)},(∀x∈l,I x.1 (Z x.1-1) 0=1/\bw (lx x.1)/\1<=x.2)->l.Pairwise (λx a=>x.1≠a.1)->∃f,fH l=pk (lx u) (ah<|zW u l)*f/\¬lx u∣f
 |[],_,_=>⟨1,(fv _).symm,b.zs⟩
 |x::l,g,m=>by
  let ⟨n,p⟩:=Ef i;have d:∀a∈x::l,lx u∣lx a.1->a.1=u:=λa hy k=>by let ⟨s,t⟩:=Ef (g a hy).1;exact sf s n (b.eq (g a hy).2.1 p t k).symm
  let ⟨d1,d2⟩:=kI.1 m;by_cases e:x.1=u
  .refine⟨fH l,by rw[fH,zW,q e,e],λk=>?_⟩;let ⟨a,hy,h2⟩:=ahF b k;exact d1 a hy<|e.trans (d a qD h2).symm
  .let ⟨f,r1,v⟩:=ahM i b (λa hy=>g a qD) d2;refine⟨pk (lx x.1) (ah x.2)*f,by rw[fH,r1,zW,j e];ac_rfl,λk=>?_⟩;rcases b.nW k with k|k
   .exact e<|d x ax (b.pk k).2
   .exact v k
def ahN{u:E U}:∀{l:E (E U×V)},zW u l≠0->(u,zW u l)∈l
 |[],a=>aJ J a
 |d::l,a=>by
  rw[zW]at a⊢;split at a
  .rename_i b;rw[q b,<-b];simp
  .rename_i b;rw[j b];exact kJ _<|ahN a
def at3{a u}{b}(d:BO a b)(g:I u (Z u-1) 0=1)(i:bw (lx u))(f:lx u∣lx (eZ a)):(u,zW u b)∈b:=by
 let ⟨A,a1,a2⟩:=ahM g i d.ok d.uL;refine ahN λe=>a2 ?_
 rw[<-d.prod,a1,e]at f;have k:pk (lx u) (ah<|(0:V))*A=A:=cY A;rwa[k]at f
def q9:E (E U×V)->G
 |[]=>0
 |x::l=>ah x.2*(Z x.1-1)+q9 l
def ahO{Q:Rx}(hQ:Q≠0):∀a,sz (pk Q a)=a*(sz Q-1)+1/\pk Q a≠0
 |0=>⟨by rw[pk,pn];omega,pY⟩
 |a+1=>by let ⟨i1,i2⟩:=ahO hQ a;have b:=dV i2 hQ;have d:=fe hQ;rw[pk];refine⟨?_,oA i2 hQ⟩;rw[fZ,hY];omega
def ahP:∀{l:E (E U×V)},(∀x∈l,I x.1 (Z x.1-1) 0=1)->sz (fH l)=q9 l+1/\fH l≠0
 |[],_=>⟨by rw[fH,pn,q9],pY⟩
 |x::l,a=>by
  let ⟨i1,i2⟩:=ahP (l:=l) λy hy=>a y qD
  let ⟨c,m⟩:=Ef<|a x ax;let ⟨j1,j2⟩:=ahO m.ne<|ah x.2;have:=dV j2 i2;rw[eJ c]at j1;rw[fH,q9];exact⟨Y,oA j2 i2⟩
def BO.wt{a}{b}(H:BO a b)(d:bM a):q9 b+1=Z a\/a=[]:=by
 by_cases f:a=[]
 .exact .inr f
 .left;have:=(ahP λx g=>(H.ok x g).1).1;rw[H.prod,eJ<|uT a,QO d]at this;exact this.symm
end Go.El
namespace Go.El
open Go Go.Proofs Fx
def Yh{P:G->Prop}(a:∃n,P n):∃n,P n/\∀k,k<n->¬P k:=by
 let ⟨n,b⟩:=a;induction n using Nat.strongRecOn with
 |_ n d=>
  by_cases e:∃k,k<n/\P k
  .let ⟨k,f,h2⟩:=e;exact d k f h2
  .exact⟨n,b,λk g i=>e ⟨k,g,i⟩⟩
section
variable{p:G}
def at4(H:bF p)(A B:Fx p) i:pk (A-B) (p^i)=pk A (p^i)-pk B (p^i):=
 KI (by rw[<-P' H,lE])
def ahQ(H:bF p){Q:Fx p}(hQ:bw Q){i m}(a:Q∣pk X (p^(i+m))-pk X (p^i)):Q∣pk X (p^m)-X:=by rw[kv,ic,wz,<-at4 H]at a;exact Q8 H hQ _ a
def ahR(H:bF p)(i:G):∀a:E V,ev (a.map<|K (p:=p)) (pk X<|p^i)=pk (fx<|a++[1]) (p^i)
 |[]=>by rw[tZ,DQ,DJ];rfl
 |b::a=>by rw[lO,K7,P' H,WQ H,wA,<-ahR H i a];rfl
def at5(H:bF p){d}(l:Mon p d)(hQ:bw (fx d:Fx p)):(fx d:Fx p)∣pk X (p^(Z d-1))-X:=by
 have w:sz (fx d:Fx p)=Z d:=dc l.c;have E:2<=Z d:=by have:=hQ.1;omega
 have x:=H.hp.1;have ex:∃m,0<m/\(fx d:Fx p)∣pk X (p^m)-X:=by
  have f:=λi=>zQ H l.c l.ne<|pk X<|p^i
  have s:∀i r,ah (I (iS H d<|pk X<|p^i) r 0)<p:=λi r=>by have:=((f i).1.1 r);omega
  let ⟨i,j,F,_,z⟩:=K4 (p^(Z d-1)) (p^(Z d-1)+1) (λi=>code p (λr=>ah<|I (iS H d<|pk X<|p^i) r 0)<|Z d-1) (dO _) λi _=>K5 _ _ λr _=>s i r
  have A:=WJ _ _ _ (λr _=>s i r) (λr _=>s j r) z;have e:iS H d (pk X<|p^i)=iS H d (pk X<|p^j):=by
   refine wG (p:=p) (f i).1 (f j).1<|mk_eq.2<|Cg.of λr=>?_;by_cases t:r<Z d-1
   .have G:=(f i).1.1 r;have J:=(f j).1.1 r;have L:=A r t;show I (iS H d<|pk X<|p^i) r 0%_=I (iS H d<|pk X<|p^j) r 0%_;have:I (iS H d<|pk X<|p^i) r 0=I (iS H d<|pk X<|p^j) r 0:=Y;rw[this]
   .have M:=(f i).2.1;have O:=(f j).2.1;show I (iS H d<|pk X<|p^i) r 0%_=I (iS H d<|pk X<|p^j) r 0%_;rw[fQ _ Y,fQ _ Y]
  obtain⟨m,rfl⟩:∃m,j=i+m:=⟨j-i,Y⟩;refine⟨m,Y,ahQ H hQ (i:=i) ?_⟩;have u:=(f i).2.2;rw[e]at u;exact oE<|mH (oE u) (f<|i+m).2.2
 let ⟨m,⟨B,m1⟩,C⟩:=Yh ex;have D:¬m+1<sz (fx d:Fx p):=λh=>afK H hQ B h m1
 obtain⟨g,rfl⟩:∃g,d=g++[1]:=⟨d.dropLast,by
  have e:=Yi l.ne;have N:d.getLast l.ne=1:=by have:=l.one;rw[aO,cT Y]at this;rw[List.getLast_eq_getElem];exact this
  rw[N]at e;exact e.symm⟩
 have t:Z (g++[(1:V)])=Z g+1:=ax;have P:m<=Z g:=by
  refine eR λR=>?_
  refine roots H hQ (g.map<|K (p:=p)) ((cy m).map λi=>pk X<|p^i) b6 (λy Q=>?_) ?_
  .obtain⟨i,_,rfl⟩:=kf.1 Q;rw[ahR H];obtain⟨k,T⟩:∃k,p^i=k+1:=⟨p^i-1,by have:=ko (n:=i) (Y:0<p);omega⟩;rw[T,pk];exact jd _ _
  .refine Hl.2<|Qa ?_ Mc;intro a b S v W o;have v:=ru.1 v;obtain⟨k,rfl⟩:∃k,b=a+k:=⟨b-a,Y⟩;exact C k Y ⟨Y,ahQ H hQ<|oE o⟩
 rw[t];have:m=Z g:=Y;rwa[this]at m1
end
def MD.mul{d b}{g K}(f:MD d g)(k:MD b K):MD (d+b) (g*K):=by
 refine⟨?_,λi l=>?_⟩
 .rw[PS.fV,zy (a:=d) Y λi l m=>?_]
  .rw[(Y:d+b-d=b),f.one,k.one];rfl
  .by_cases c:d<i
   .rw[f.z i c,ox]
   .rw[k.z _ Y,iy]
 .rw[PS.fV,sa λj n=>?_];by_cases c:d<j
  .rw[f.z j c,ox]
  .rw[k.z _ Y,iy]
section
variable{p:G}
def ahS(H:bF p){f:E V}:∀{l:E (E V)},(∀a∈l,Co (fx f:Fx p) (fx a))->Co (fx f:Fx p) (gN l)
 |[],_=>⟨0,1,by rw[dw,im];exact cY 1⟩
 |a::l,b=>(b a ax).mul (ahS H λz d=>b z<|by simp[d])
end
structure HK(p k:G)(f:E V)(l X:E (E V)):Prop where
 len:X.length=l.length
 ok:∀i,i<l.length->aL (X.getD i [])/\(X.getD i []).length=(l.getD i []).length/\(fx (X.getD i []):Fx p)=fx (l.getD i [])/\∀a,dW ((X.getD i []).getD a 0) ((p:V)^k)=(X.getD i []).getD a 0
 pr:Cg ((p:V)^k) (ps f) (qW X)
end Go.El
end
