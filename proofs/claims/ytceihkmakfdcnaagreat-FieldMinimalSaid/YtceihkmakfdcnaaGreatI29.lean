/- Own work; no condition. -/
import Derived.Test.YtceihkmakfdcnaaGreatI15
import Derived.Test.YtceihkmakfdcnaaGreatIS9
import Derived.Test.YtceihkmakfdcnaaGreatI10
import Derived.Test.YtceihkmakfdcnaaGreatI6
import Derived.Test.YtceihkmakfdcnaaGreatI11
import Derived.Test.YtceihkmakfdcnaaGreatIS10
import Derived.Test.YtceihkmakfdcnaaGreatI14
set_option linter.all false
set_option maxHeartbeats 16000000
set_option maxRecDepth 100000
noncomputable section
open Bool renaming false->ak,true->af
open Go.El renaming rr->e,cS->S,xe->F,iA->L,re->O,bA->h,cI->y,rb->w
open Go.Proofs.Tryz renaming prog->r
open Int renaming toNat->ah
open List renaming length->Z,getD->I
open Nat renaming pow_succ'->ajW,ble_eq_true_of_le->axb
open Option renaming some->ae
open _root_ renaming List->E,Rat->U,Nat->G,Int->V
namespace Go.El
open Go Go.Proofs Rx
def Ez(m:E U)(t:G)(a:E U):Prop:=Pz 4 t a/\Z a<Z m
def HS{t}{x}(a:Pz 4 t x):Pz 12 t x:=a.le o<|aN _
def Ez.le{m}{t u}{a}(b:Ez m t a)(k:t<=u):Ez m u a:=⟨b.1.le (aN _) k,b.2⟩
def Ez.mul{m a b}{t u}(g:du m)(d:Ez m t a)(f:Ez m u b)(i:t+u+200<3200000000000):Ez m (t+u+28) (fm a b m):=by let ⟨k,h2,_,_⟩:=YY g (HS d.1) (HS f.1) d.2 f.2 i;exact⟨k,h2⟩
def Ez.add{m a b}{t u}(d:Ez m t a)(f:Ez m u b):Ez m (t+u+1) (kZ a b):=by refine⟨(d.1.add f.1).le o<|aN _,tm (wP _) ?_⟩;rw[c7,qR];have:=d.2;have:=f.2;omega
def aw2{z}{a}(b:Int.natAbs z<=2^a):Ht (2^a) (K (z:U)):=⟨1,o,Nat.one_le_two_pow,λi=>by
 rw[kz];split
 .exact⟨z,b,by rw[show(((1:V)):U)=1 from J,ph]⟩
 .exact⟨0,bm _,dU _⟩⟩
abbrev LQ:ET:= .sl .q
def Ez.nil{m}(a:du m) t:Ez m t []:=⟨Pz.nil _ _,by have:=a.l2;show 0<_;omega⟩
def aw3{a b f d x:Rx}(g:a∣b-f)(k:a∣d-x):a∣(b-d)-(f-x):=by
 have:=dvd_sub g k;have i:(b-f)-(d-x)=(b-d)-(f-x):=Rx.ext λj=>by simp only[nS];grind
 rwa[i]at this
def RP b a:Z (fw b a)<=Z a:=by refine bZ (wP _) ?_;rw[c7,qR];exact aN _
def ajI a b:Z (gW a b)<=max (Z a) (Z b):=by refine bZ (wP _) ?_;rw[c7,qR];have:=RP ((-1:V):U) b;omega
section
variable{m a b:E U}{t:G}
def aw4(d:du m) t:Ez m t [1]:=⟨YX 4 t o,by have:=d.l2;show 1<_;omega⟩
end
def br(a m:E U):G->E U
 |0=>a
 |i+1=>fm (br a m i) [0,1] m
def Y1:aq r 78 [y 1] (S .q [0,1]):=iV (l:=[]) M e9 J J
def RQ:lx [(0:U),1]=X 1:=Rx.ext λi=>by
 match i with
 |0=>rfl
 |1=>rfl
 |i+2=>rw[oF,j Y];rfl
def HT:Pz 2 0 [(0:U),1]:=⟨.inr (o:(1:U)≠0),aN _,by
 rw[RQ];refine⟨1,o,o,λi=>?_⟩;rw[oF];split
 .exact⟨1,o,lF _⟩
 .exact⟨0,o,dU _⟩⟩
section
variable{m a:E U}{t:G}
def Y2(b:du m)(f:Ez m t a)(l:t<=1000000000):Ez m (t+12) (fm a [0,1] m)/\aq r 19 [S .q a,S .q [0,1],S .q m] (S .q<|fm a [0,1] m):=by
 have n:=b.l2;have p:=b.l5;have u:=f.2;have i:Z a+[(0:U),1].length-1+1-Z m<=1:=by show Z a+2-1+1-Z m<=1;omega
 have k:=Pz.fm f.1 HT b.pz b.ne (d:=1) o i;have g:(fm a [0,1] m).length<Z m:=xZ b.ne;exact⟨⟨⟨k.can,Y,k.ht.le<|eU o Y⟩,g⟩,f.1.ajj HT b.pz b.ne (d:=1) (s:=100000000000) o o o i Y o⟩
def Eu(b:du m)(d:Ez m t a)(f:t<=100000000):∀i,i<=100->Ez m (t+12*i) (br a m i)
 |0,_=>d
 |i+1,g=>(Y2 b (Eu b d f i Y) Y).1.le Y
end
def ajJ(a m:E U):CX r 69 [S .q a,S .q m] [] 3002000 (.c<|.X 3002002) [(3002001,.box 29 0 [.S .q m]),(3002000,.box 29 0 [.S .q a]),(3002002,.dS 122 [] [(ak,[.P 3002001 0]),(ak,[.P 3002000 0])])] 3002003:=by
 refine asz (λf=>if f=3002000 then 0 else if f=3002001 then 1000 else if f=3002002 then 1000000 else f) Tryz.func69 J J J J o (fm0:=[(1000000,.dS 122 [] [(ak,[.P 1000 0]),(ak,[.P 0 0])]),(1000,.box 29 0 [.S .q m]),(0,.box 29 0 [.S .q a])]) ?_ o ?_ ?_ ?_
 .exact e J<|w<|agz J J J<|λk=>O J<|bX<|agy cp J
 .intro f h;have h:f∈[3002002]:=h;simp at h;omega
 .intro f b h;simp only[L]at h;split at h
  .rename_i g;subst g;cases h;exact⟨J,o,λj d=>by cases d⟩
  .split at h
   .rename_i g;subst g;cases h;exact⟨J,o,λj d=>by cases d⟩
   .split at h
    .rename_i g;subst g;cases h;exact⟨J,o,λj d=>by simp[aC.al,dX,b8,C.al]at d;omega⟩
    .cases h
 .intro f l h n g;have i:∀j,(L j [(3002001,aC.box 29 0 [.S .q m]),(3002000,aC.box 29 0 [.S .q a]),(3002002,.dS 122 [] [(ak,[.P 3002001 0]),(ak,[.P 3002000 0])])]).isSome=af->j=3002001\/j=3002000\/j=3002002:=λj d=>by
   simp only[L]at d;split at d
   .omega
   .split at d
    .omega
    .split at d
     .omega
     .cases d
  rcases i f h with rfl|rfl|rfl<;>rcases i l n with rfl|rfl|rfl<;>first|rfl| (revert g;decide)
def Y3{g:Gh}{b:C}:∀{cs:E (Bool×E C)}{d:E Value}{j:G},dy g cs d->cs[j]? =ae (ak,[b])->∃f,d[j]? =ae f/\c6 g b f
 |[],_,_,_,a=>by cases a
 |_::_,_,0,⟨v,_,rfl,i,_⟩,a=>by cases a;exact⟨v,J,i⟩
 |_::cs,_,j+1,⟨_,_,rfl,_,h2⟩,a=>Y3 (cs:=cs) (j:=j) h2 a
def RR{f}{i a}{k}(p:G)(l:f[p]? =ae (ak,[.P i a])) g m val(s:dy g f k)(t:bf g (.c<|.P i a) val)(u:dy m f k):bf m (.c<|.P i a) val:=by let ⟨w,v,x⟩:=Y3 s l;let ⟨A,n,h2⟩:=Y3 u l;rw[v]at n;cases n;obtain⟨b,z,rfl⟩:=t;obtain⟨B,d,rfl⟩:=x;rw[z]at d;cases d;exact h2
def HU(a:oZ)(k d:G)(l:E (G×AV)):E (G×AV)->Prop
 |[]=>True
 | (t,u)::f=>(L t l=ae u/\Nat.beq t d=ak/\(u.al=[]\/(∀g b val,dy g a.caps a.ws->bf g u val->dy b a.caps a.ws->bf b u val)/\∀i∈u.al,i<1000000*k))/\HU a k d l f
def HU.get{b:oZ}{k d:G}{l:E (G×AV)}:∀{m:E (G×AV)},HU b k d l m->∀t u,L t m=ae u->L t l=ae u/\t≠d/\(u.al=[]\/(∀g i val,dy g b.caps b.ws->bf g u val->dy i b.caps b.ws->bf i u val)/\∀n∈u.al,n<1000000*k)
 |[],_,_,_,a=>by simp[L]at a
 | (p,x)::m,hw,t,u,a=>by
  simp only[L]at a;split at a
  .rename_i f;subst f;cases a;exact⟨hw.1.1,λf=>(by have:=hw.1.2.1;rw[f,CR]at this;cases this),hw.1.2.2⟩
  .exact HU.get hw.2 t u a
abbrev HV(a:oZ):AV:= .c<|.V<|.func (.yield a.l) #[] #[]
def ajK{p:oZ}{bo}{d n}{Mo}{k}{f}(x:k= .normal\/k= .ret)(i:1<=f.nx)(s:f.mem=Mo):iC n k f (p.O<|ou bo d) (p.Q bo d Mo):=by intro F D z A g W a l u;have m:A=[]:=u.2.2.2.1;subst m;refine⟨x,⟨g,f.nx,i,?_⟩,u⟩;let ⟨sl,mem,nx,gd⟩:=f;simp only at s i;subst s;exact aM.frame (F:=F.dr []) (n':=(F.dr []).n) (ds':=[]) (rd':=(F.dr []).rd) l l.size l.defers (λt v B=>by simp[L]at B)<|λH b C=>C
abbrev zR:E C:=[.B ak,.V<|.slice none 0 0,.B ak,.V<|.slice none 0 0]
abbrev z7:E (Bool×E C):=[(ak,[.P 3002001 0]),(ak,[.P 3002000 0])]
abbrev yd:E (G×C):=[(4,.P 1000000 0),(5,.P 2000000 0)]
abbrev z8:G×aC:=(0,.dS 0 [] (rY yd++z7))
abbrev mN(b m:E U)(l:E (E U)):E (G×aC):=[(3002001,.box 29 0 [.S .q m]),(3002000,.box 29 0 [.S .q b]),(4000000,.vec 29 LQ l),(2000000,.box 70 0 [.X 4000000]),(1000000,.box 44 0 zR)]
def cZ(a m:E U)(i:G):E (E U):=(List.range i).map<|br a m
def aw5{R:oZ}(ok:R.Ok)(k:R.caps=rY yd++z7)(A:R.S0=na yd){a m}{t n}(B:du m)(ha:Ez m t a)(ht:t<=100000000)(hn:Z m=n+1)
  (D:∀i,i<n->∃f:St,1<=f.nx/\rX f.mem=af/\TJ r R.n0 R.eN ⟨(R.q,S .q<|br a m i)::(R.p,y i)::R.S0,z8::mN (br a m i) m (cZ a m i),30,[]⟩ v7 (λgP cJ a W=>cJ= .normal/\∃g,aM (gP.dr []) (kb f) f.kn g W a)/\TJ r R.n0 R.bd f v7 (JW af 1<|z8::mN (br a m i) m (cZ a m<|i+1)))
 {cb}(H:Tryz.f122.body=ae cb):
  TJ r 21 cb ⟨[(0,HV R),(1,.c<|.P 3002001 0),(2,.c<|.P 3002000 0)],z8::mN a m (cZ a m 0),5,[]⟩ (R.O none) (R.Q af 1<|z8::mN (br a m n) m (cZ a m n)):=by
 obtain rfl:=IT<|(rfl:Tryz.f122.body=ae _).symm.trans H
 have s:=R.Vf none
 have L:=B.l5
 refine kr s J<|rW<|JV (α:=G) (λi=>⟨[(0,HV R),(1,.c<|.P 3002001 0),(2,.c<|.P 3002000 0),(7,y n),(8,y i)],z8::mN (br a m i) m (cZ a m i),6,[]⟩) (λi=>i<=n) (λi=>n-i) 0 (bm _) (wk ⟨sR J,sR J,sR J,sE J ?_,sR J,M⟩<|ny J) ?_
 .exact bl y (Y:(Z m:V)-1=(n:V))
 intro i U
 refine kr s J<|nK<|uB J (λh=>?_)<|λh=>?_
 .have h:i<n:=by have h:(i:V)<(n:V):=aX h;omega
  let ⟨f,K,N,hA,E⟩:=D i h;have u:=(Y2 B (Eu B ha ht i Y) Y).2;refine v3<|m9<|nK<|rW<|kr s J<|nK ?_;refine nK<|adl (i:=3) (d:=14) (j:=11) (x:=12) (x2:=13) (v:=y i) (v2:=S .q<|br a m i) (M:=z8::mN (br a m i) m (cZ a m i)) (Mo:=z8::mN (br a m i) m (cZ a m<|i+1)) (xid:=1) (stB:=f) (nxr:=30) (bo:=af) (slk:=[(0,HV R),(1,.c<|.P 3002001 0),(2,.c<|.P 3002000 0),(7,y n),(8,y i)]) (gd1:=[]) ok J J J (.inl J) (QH J<|.nil J) J J J J J o J (by rw[k];rfl) (by rw[k];rfl) (HU.get ⟨⟨J,J,.inl J⟩,⟨J,J,.inr ⟨?_,?_⟩⟩,⟨J,J,.inr ⟨?_,?_⟩⟩,⟨J,J,.inl J⟩,⟨J,J,.inl J⟩,M⟩) J J J (Fk (b:=8000000) J) (o:1<=8) (cQ J) N (o:9<=30) K ?_ hA E (QH J<|.nil J) ?_
  .intro g T val h X z;rw[k]at h z;exact RR 2 J g T val h X z
  .intro w bc;have:w=3002001:=RS;subst this;show 3002001<1000000*8;decide
  .intro g T val h X z;rw[k]at h z;exact RR 3 J g T val h X z
  .intro w bc;have:w=3002000:=RS;subst this;show 3002000<1000000*8;decide
  .rw[A];exact Fj (b:=8000000) (l:=na yd) J
  refine m9<|uB J (λI=>by cases I)<|λ_=>v3<|m9<|Hr s<|rc J J Y1<|rc J J u<|O J<|v5<|m9<|kt s J<|Gw (i+1) h QC<|wk (bP J) ⟨bR J,bR J,bE J J,bR J,bR J,bR J,M⟩
 .have h:i=n:=by have h:¬(i:V)<(n:V):=bh h;omega
  subst h;exact U9<|Va<|Vd<|Vc<|ajK (bo:=af) (.inl J) (o:1<=7) J
abbrev BX:E (G×C):=[(4,.P 1000000 0),(5,.P 2001000 0)]
abbrev ye:G×aC:=(0,.dS 0 [] (rY BX++z7))
abbrev mT(b m:E U)(s:U):E (G×aC):=[(3002001,.box 29 0 [.S .q m]),(3002000,.box 29 0 [.S .q b]),(2001000,.box 44 0<|av .q s),(1000000,.box 44 0 zR)]
def ju(a m:E U):G->U
 |0=>0
 |i+1=>ju a m i+I (br a m i) i 0
def aw6{R:oZ}(ok:R.Ok)(k:R.caps=rY BX++z7)(A:R.S0=na BX){a m}{t n}(B:du m)(ha:Ez m t a)(ht:t<=100000000)(hn:Z m=n+1)
  (D:∀i,i<n->∃f:St,1<=f.nx/\rX f.mem=af/\TJ r R.n0 R.eN ⟨(R.q,S .q<|br a m i)::(R.p,y i)::R.S0,ye::mT (br a m i) m (ju a m i),30,[]⟩ v7 (λgP cJ a W=>cJ= .normal/\∃g,aM (gP.dr []) (kb f) f.kn g W a)/\TJ r R.n0 R.bd f v7 (JW af 1<|ye::mT (br a m i) m (ju a m<|i+1)))
 {cb}(H:Tryz.f122.body=ae cb):
  TJ r 21 cb ⟨[(0,HV R),(1,.c<|.P 3002001 0),(2,.c<|.P 3002000 0)],ye::mT a m (ju a m 0),5,[]⟩ (R.O none) (R.Q af 1<|ye::mT (br a m n) m (ju a m n)):=by
 obtain rfl:=IT<|(rfl:Tryz.f122.body=ae _).symm.trans H
 have s:=R.Vf none
 have L:=B.l5
 refine kr s J<|rW<|JV (α:=G) (λi=>⟨[(0,HV R),(1,.c<|.P 3002001 0),(2,.c<|.P 3002000 0),(7,y n),(8,y i)],ye::mT (br a m i) m (ju a m i),6,[]⟩) (λi=>i<=n) (λi=>n-i) 0 (bm _) (wk ⟨sR J,sR J,sR J,sE J ?_,sR J,M⟩<|ny J) ?_
 .exact bl y (Y:(Z m:V)-1=(n:V))
 intro i U
 refine kr s J<|nK<|uB J (λh=>?_)<|λh=>?_
 .have h:i<n:=by have h:(i:V)<(n:V):=aX h;omega
  let ⟨f,K,N,hA,E⟩:=D i h;have u:=(Y2 B (Eu B ha ht i Y) Y).2;refine v3<|m9<|nK<|rW<|kr s J<|nK ?_;refine nK<|adl (i:=3) (d:=14) (j:=11) (x:=12) (x2:=13) (v:=y i) (v2:=S .q<|br a m i) (M:=ye::mT (br a m i) m (ju a m i)) (Mo:=ye::mT (br a m i) m (ju a m<|i+1)) (xid:=1) (stB:=f) (nxr:=30) (bo:=af) (slk:=[(0,HV R),(1,.c<|.P 3002001 0),(2,.c<|.P 3002000 0),(7,y n),(8,y i)]) (gd1:=[]) ok J J J (.inl J) (QH J<|.nil J) J J J J J o J (by rw[k];rfl) (by rw[k];rfl) (HU.get ⟨⟨J,J,.inl J⟩,⟨J,J,.inr ⟨?_,?_⟩⟩,⟨J,J,.inr ⟨?_,?_⟩⟩,⟨J,J,.inl J⟩,⟨J,J,.inl J⟩,M⟩) J J J (Fk (b:=8000000) J) (o:1<=8) (cQ J) N (o:9<=30) K ?_ hA E (QH J<|.nil J) ?_
  .intro g T val h X z;rw[k]at h z;exact RR 2 J g T val h X z
  .intro w bc;have:w=3002001:=RS;subst this;show 3002001<1000000*8;decide
  .intro g T val h X z;rw[k]at h z;exact RR 3 J g T val h X z
  .intro w bc;have:w=3002000:=RS;subst this;show 3002000<1000000*8;decide
  .rw[A];exact Fj (b:=8000000) (l:=na BX) J
  refine m9<|uB J (λI=>by cases I)<|λ_=>v3<|m9<|Hr s<|rc J J Y1<|rc J J u<|O J<|v5<|m9<|kt s J<|Gw (i+1) h QC<|wk (bP J) ⟨bR J,bR J,bE J J,bR J,bR J,M⟩
 .have h:i=n:=by have h:¬(i:V)<(n:V):=bh h;omega
  subst h;exact U9<|Va<|Vd<|Vc<|ajK (bo:=af) (.inl J) (o:1<=7) J
def RT{L:E (G×aC)}(a:((L.map Prod.fst).contains 0||(L.map λx=>x.2.al.contains 0).contains af)=ak):∀d b,iA d L=ae b->d≠0/\0∉b.al:=λd b i=>by
 have g:=xE i;rw[N8]at a;refine⟨λe=>?_,λe=>?_⟩
 .subst e;have:(L.map Prod.fst).contains 0=af:=by rw[Y4];exact Rj (f:=Prod.fst) g
  rw[a.1]at this;cases this
 .have:(L.map λx=>x.2.al.contains 0).contains af=af:=by rw[Y4];exact kf.2 ⟨_,g,by rw[Y4];exact e⟩
  rw[a.2]at this;cases this
def RU{a m:E U}:∀g b,L g [(3002001,aC.box 29 0 [.S .q m]),(3002000,aC.box 29 0 [.S .q a]),(3002002,.dS 122 [] [(ak,[.P 3002001 0]),(ak,[.P 3002000 0])])]=ae b->3002000<=g/\∀f∈b.al,3002000<=f:=λg b i=>by
 have:=xE i;simp only[b9,bQ,Ev,or_false]at this;rcases this with⟨rfl,rfl⟩|⟨rfl,rfl⟩|⟨rfl,rfl⟩
 .exact⟨o,λf d=>by cases d⟩
 .exact⟨o,λf d=>by cases d⟩
 .exact⟨o,λf d=>by simp[aC.al,dX,b8,C.al]at d;omega⟩
def Y5{a m:E U}{s:G}(b:∀i,i<=100->QS s (I (br a m i) i 0)):∀i,i<=100->QS (2^i*(s+2)-1) (ju a m i)
 |0,_=>QS.zero Y
 |i+1,f=>by
  have d:1<=2^i:=ko o;have g:s+2<=2^i*(s+2):=by have:=eB (s+2) d;omega
  have:=(Y5 b i Y).add<|(b i Y).le Y;exact this.le (by rw[gK,ic (2^i) 2,tn];omega)
def aw7{m a}{t}(z:du m)(D:Ez m t a)(H:t<=10000000):aq r 24 [S .q a,S .q m] (aQ<|ju a m<|Z m-1):=by
 obtain⟨n,W⟩:∃n,Z m=n+1:=⟨Z m-1,by have:=z.l2;omega⟩;have h5:=z.l5;have B:Z m-1=n:=Y;have w:=Eu z D Y;have u:∀i,i<=100->∀j,QS 10000000 (I (br a m i) j 0):=λi A j=>(w i A).1.qs Y j
 have x:=Y5 (a:=a) (m:=m)<|λi A=>u i A i;rw[B];refine agr (nx:=1) (n:=25) J J J J J J J ?_;refine kr jc J<|zK jc<|rc J J (Ll 0 o o)<|O J<|nK<|zK jc ?_;refine rcN J J (ajJ a m) o (λg C=>?_) (λg b d=>(RU g b d).1) (λg b d=>(RU g b d).2)<|λ_=>O J<|rW ?_
 .rw[iM.1 C];decide
 refine JU (st':=⟨(11,.c<|.X 3002002)::na BX,(3002002,.dS 122 [] z7)::mT a m (ju a m 0),5,[]⟩) aY ?_;refine ado (n0:=25) (nI:=21) (p:=12) (p2:=13) (cid:=3002002) (f:=122) (capsI:=z7) (wsI:=[.c (.P 3002001 0),.c<|.P 3002000 0]) (Sc:=BX) (M:=mT a m<|ju a m 0) (Mo:=mT (br a m n) m<|ju a m n) (bo:=af) (xid:=1) J J J J J J J J (o:2+1<=21) (o:1<=5) (o:12<25) (o:13<25) o J J ?_ J ?_ ?_ (RT J) (λg b d=>?_) ?_ ?_
 .intro s N;simp only[BX,b9,Ev,or_false]at N;rcases N with rfl|rfl<;>rfl
 .intro t v H E;have:=xE H;simp only[na,BX,gM,En,b9,bQ,Ev,or_false]at this;rcases this with⟨_,rfl⟩|⟨_,rfl⟩|⟨_,rfl⟩<;>exact aJ (iM.1 E) o
 .intro g b d;refine(afY<|λe=>?_).trans d;subst e;cases d
 .exact⟨(RT (L:=mT (br a m n) m<|ju a m n) J g b d).1,(xX.of (K:=5000000) (m:=mT (br a m n) m<|ju a m n) J) g b d⟩
 .intro R F Q T G U e5 e6 e7;refine aw6 (R:=R) F G T z D Y W (λi A=>⟨⟨[(6,y i),(7,S .q<|br a m i),(4,.c<|.P 1000000 0),(5,.c<|.P 2001000 0)],ye::mT (br a m i) m (ju a m i),32,[]⟩,(o:1<=32),J,?_,?_⟩) J
  .rw[Q,T,U,e5,e6];exact kr Gx J<|kt Gx J<|agB aY
  .rw[Q,e7];refine rW (kr Gx J<|uB J (λh=>?_)<|λh=>v3 ?_)
   .have h:i<Z (br a m i):=by have h:(i:V)<(Z (br a m i):V):=aX h;omega
    have l:=agj (k:=2000000000) (ju a m i) (I (br a m i) (ah<|(i:V)) 0) ((x i Y).le<|by have:=eB (10000000+2)<|eU (o:0<2) (Y:i<=6);omega) ((u i Y _).le o) o;rw[show ju a m i+I (br a m i) (ah<|(i:V)) 0=ju a m (i+1)by rw[cx];rfl]at l;exact Hr Gx<|rc J J l (O J<|v5<|A2 (st':=⟨[],ye::mT (br a m i) m (ju a m<|i+1),40,[]⟩) aY<|Xx J (o:1<=40) J) (hp:=aH)
   .have h:Z (br a m i)<=i:=by have h:¬(i:V)<(Z (br a m i):V):=bh h;omega
    have e:ju a m (i+1)=ju a m i:=by show ju a m i+I (br a m i) i 0=_;rw[gk _ h,oC]
    rw[e];exact v5<|A2 (st':=⟨[],ye::mT (br a m i) m (ju a m i),40,[]⟩) aY<|Xx J (o:1<=40) J
 .exact v5<|m9<|kr jc J<|U'<|Xw cp J<|bq.refl _
def ajL{k}a b(g:b≠0)(l:QS k a)(f:QS k b)(m:k<=500000000000):aq r 73 [aQ a,aQ b] (.t [(af,av .q<|a/b),(ak,[.I .i64 0])]):=by have p:=agh b (λs=>g<|BD s) (f.n.sm Y)<|f.d.sm Y;have i:=Qz a b⁻¹ l (f.inv g) m;rw[<-tE]at i;refine aS Tryz.func73 ?_;refine e J<|w<|rc J J p<|O J<|bA<|e J<|F J (λh=>gD)<|λ_=>aG ?_;exact w<|rc J J i<|O J<|di J
def nr(a:E (E U))(n:G):G->Option G
 |0=>none
 |k+1=>if Z (a.getD k [])<n then nr a n k else ae k
def RV(a:E (E U))(k b:G):E (E U):=(a.set k<|a.getD b []).set b<|a.getD k []
def jH(a:E (E U))(k n:G):E (E U):=if k=n then a else RV a k n
def qh(v:U)(k n:G):U:=if k=n then v else-v
def BY(a p:E U)(n:G):E U:=gW a<|fw (I a n 0/I p n 0) p
def jv(a:E (E U))(n:G)(p:E U):G->E (E U)
 |0=>a
 |i+1=>if Z ((jv a n p i).getD i [])=n+1 then(jv a n p i).set i (BY ((jv a n p i).getD i []) p n)else jv a n p i
def NR:G->E (E U)->U->U
 |0,_,v=>v
 |n+1,rows,v=>match nr rows (n+1) (n+1)with
  |none=>0
  |some k=>NR n (jv (jH rows k n) n ((jH rows k n).getD n []) n)<|qh v k n*I ((jH rows k n).getD n []) n 0
section
variable{rows:E (E U)}{n k:G}{p:E U}
def Y6{v}(a:nr rows (n+1) (n+1)=none):NR (n+1) rows v=0:=by rw[NR,a]
def Y7{v}(a:nr rows (n+1) (n+1)=ae k):NR (n+1) rows v=NR n (jv (jH rows k n) n ((jH rows k n).getD n []) n) (qh v k n*I ((jH rows k n).getD n []) n 0):=by rw[NR,a]
def ajM:∀{b:G},nr rows n b=ae k->k<b/\¬Z (rows.getD k [])<n
 |0,a=>by cases a
 |b+1,a=>by
  rw[nr]at a;split at a
  .have:=ajM a;exact⟨Y,this.2⟩
  .rename_i d;cases a;exact⟨dO _,d⟩
def ajN:∀{a:G},nr rows n a=none->∀i,i<a->Z (rows.getD i [])<n
 |0,_,i,d=>aJ d<|oT _
 |a+1,b,i,d=>by
  rw[nr]at b;split at b
  .rename_i f;by_cases g:i=a
   .subst g;exact f
   .exact ajN b i Y
  .cases b
def Y8 l{i}(x:E U)(b:i<Z l) a:(l.set i x).getD a []=if a=i then x else l.getD a []:=by
 rw[aO];by_cases e:a=i
 .subst e;rw[q J,List.getElem?_set_self b];rfl
 .rw[j e,List.getElem?_set_ne<|λh=>e h.symm,<-aO]
def ajO:Z (jH rows k n)=Z rows:=by
 unfold jH RV;split
 .rfl
 .rw[oQ,oQ]
def LY(f:k<=n)(d:n<Z rows) a:(jH rows k n).getD a []=if a=n then rows.getD k []else if a=k then rows.getD n []else rows.getD a []:=by
 unfold jH;split
 .rename_i e;subst e;by_cases b:a=k
  .subst b;rw[q J]
  .rw[j b,j b]
 .rw[RV,Y8 _ _ (by rw[oQ];exact d),Y8 _ _ Y]
def LZ:∀i,Z (jv rows n p i)=Z rows
 |0=>rfl
 |i+1=>by
  rw[jv];split
  .rw[oQ,LZ i]
  .exact LZ i
def BZ:∀i,i<=Z rows->∀a,(jv rows n p i).getD a []=if a<i/\Z (rows.getD a [])=n+1 then BY (rows.getD a []) p n else rows.getD a []
 |0,_,a=>by rw[j (λb=>oT _ b.1)];rfl
 |i+1,g,a=>by
  have d:=BZ i Y i;rw[j (λb=>Gi _ b.1)]at d;rw[jv,d];split
  .rename_i f;rw[Y8 _ _ (by rw[LZ];omega)];by_cases e:a=i
   .subst e;rw[q J,q ⟨dO _,f⟩]
   .rw[j e,BZ i Y a];by_cases h2:a<i/\Z (rows.getD a [])=n+1
    .rw[q h2,q ⟨Y,h2.2⟩]
    .rw[j h2,j<|λb=>h2 ⟨Y,b.2⟩]
  .rename_i f;rw[BZ i Y a];by_cases h2:a<i/\Z (rows.getD a [])=n+1
   .rw[q h2,q ⟨Y,h2.2⟩]
   .rw[j h2,j (λb=>h2 ⟨by
     by_cases e:a=i
     .subst e;exact aJ b.2 f
     .omega,b.2⟩)]
end
def Rx.Ht.RX{a}{A}(b:Ht a A) i:Ht a (K<|A i):=by
 let ⟨D,d,h2,f⟩:=b;refine⟨D,d,h2,λj=>?_⟩;rw[kz];split
 .exact f i
 .exact⟨0,bm _,dU _⟩
def Rx.Ht.Y9{a N}{x b}(d:Ht a (K x))(k:Ht N (K b)):Ht (a*N) (K<|x*b):=by have:=d.smul k;rwa[<-dL,zk]at this
def Rx.Ht.ajP{a N}{A B}(b:Ht a A)(k:Ht N B){i j}(d:B j≠0):Ht (a*N) (K<|A i/B j):=by rw[tE];exact(b.RX i).Y9<|k.inv d
def Rx.Ht.ajQ{a}{x}(b:Ht a (K x)):Ht a (K<| -x):=by rw[Bq];exact b.neg
def Y'{a p}{T n}(b:Pz 4 T a)(f:Pz 4 T p)(g:I p n 0≠0)(u:Z a=n+1)(v:Z p=n+1):Pz 4 (4*T+1) (BY a p n)/\Z (BY a p n)<=n/\Ht (2^(T+T)) (K<|I a n 0/I p n 0):=by
 have k:Ht (2^(T+T)) (K<|I a n 0/I p n 0):=by rw[kv];exact b.ht.ajP f.ht (i:=n) (j:=n) g
 have d:=b.sub<|f.Hz k;have l:Z (BY a p n)<=n:=by
  refine Hy d.can λi x=>?_
  show I (gW a<|fw _ p) i 0=0;rw[BJ,wO];by_cases e:i=n
  .subst e;rw[tE,mG,nV _ g,lF];grind
  .have m:I a i 0=0:=gk a Y;have s:I p i 0=0:=gk p Y;rw[m,s,dU];grind
 have t:=b.len;exact⟨⟨d.can,Y,d.ht.le<|eU o Y⟩,l,k⟩
structure u6(N n T:G)(a:E (E U)):Prop where
 len:a.length=N
 pz:∀i,Pz 4 T (a.getD i [])
 sh:∀i,i<n->(a.getD i []).length<=n
section
variable{N n T k:G}{rows:E (E U)}
def u6.Za(a:u6 N (n+1) T rows)(f:n<N)(b:nr rows (n+1) (n+1)=ae k):k<=n/\(jH rows k n).getD n []=rows.getD k []/\Z (rows.getD k [])=n+1/\I (rows.getD k []) n 0≠0:=by have d:=ajM b;have g:=a.sh k d.1;have i:=a.len;have e:Z (rows.getD k [])=n+1:=Y;refine⟨Y,by rw[LY Y Y,q J],e,?_⟩;exact(a.pz k).can.top e
def u6.sw(a:u6 N (n+1) T rows)(g:n<N)(b:k<=n):u6 N (n+1) T (jH rows k n):=by
 have d:=a.len;refine⟨by rw[ajO];exact d,λi=>?_,λi f=>?_⟩
 .rw[LY b Y];split
  .exact a.pz _
  .split
   .exact a.pz _
   .exact a.pz _
 .rw[LY b Y];split
  .exact a.sh _ Y
  .split
   .exact a.sh _ Y
   .exact a.sh _ f
def u6.el(a:u6 N (n+1) T rows)(s:n<N){p}(d:Pz 4 T p)(f:I p n 0≠0)(g:Z p=n+1):u6 N n (4*T+1) (jv rows n p n):=by
 have l:=a.len;refine⟨by rw[LZ];exact l,λi=>?_,λi m=>?_⟩
 .rw[BZ n Y];split
  .rename_i b;exact(Y' (a.pz i) d f b.2 g).1
  .exact(a.pz i).le (aN _) Y
 .rw[BZ n Y];split
  .rename_i b;exact(Y' (a.pz i) d f b.2 g).2.1
  .rename_i b;have t:=a.sh i Y;have u:Z (rows.getD i [])≠n+1:=λe=>b ⟨m,e⟩
   omega
end
abbrev mq:=G×E U×E U
def n6:E mq->G->Option (E U×E U)
 |[],_=>none
 |x::a,n=>if x.1=n then ae x.2 else n6 a n
def u7(a:E mq):E (E C×E C):=a.map λx=>([.I .i64 (x.1:G)],[.S .q x.2.1,.S .q x.2.2])
def ajR(n:G):∀a:E mq,uq ak .i64 [(n:V)] (u7 a)=ae ((n6 a n).map λd=>[.S .q d.1,.S .q d.2])
 |[]=>rfl
 |x::f=>by
  show(if[((x.1:G):V)]=[(n:V)]then ae (ae [C.S .q x.2.1,C.S .q x.2.2])else uq ak .i64 [(n:V)] (u7 f))=_;rw[n6];by_cases b:x.1=n
  .rw[q b,q<|by rw[b]];rfl
  .rw[j b,j (λg=>b<|by simp at g;omega),ajR n f]
def ajS(n:G)(b d:E U):∀a:E mq,n6 a n=none->uu ak .i64 [(n:V)] [.I .i64 n] [.S .q b,.S .q d] (u7 a)=ae (u7<|a++[(n,b,d)])
 |[],_=>rfl
 |x::g,f=>by
  rw[n6]at f;split at f
  .cases f
  .rename_i i;show(if[((x.1:G):V)]=[(n:V)]then ae (([C.I .i64 (n:G)],[C.S .q b,C.S .q d])::u7 g)else(match uu ak .i64 [(n:V)] [.I .i64 n] [.S .q b,.S .q d] (u7 g)with
    |some k=>ae<|([C.I .i64 (x.1:G)],[C.S .q x.2.1,C.S .q x.2.2])::k
    |none=>none))=_
   rw[j (λb=>i<|by simp at b;omega),ajS n b d g f];rfl
def L0{n:G}{d:E U×E U}:∀{a:E mq},n6 a n=ae d->(n,d)∈a
 |[],b=>by cases b
 |x::g,b=>by
  rw[n6]at b;split at b
  .rename_i f;cases b;subst f;exact B8
  .exact kJ _<|L0 b
def ajT{n:G}:∀{a:E mq},n6 a n=none->∀x∈a,x.1≠n
 |[],_,x,hx=>by cases hx
 |f::g,b,x,hx=>by
  rw[n6]at b;split at b
  .cases b
  .rename_i d;rcases b9.1 hx with rfl|hx
   .exact d
   .exact ajT b x hx
def n7(a p:E U):U:=I a (Z a-1) 0/I p (Z a-1) 0
def gX(b:E mq):G->E U->E U->E U×E U
 |0,a,d=>(a,d)
 |f+1,a,d=>if a=[]then(a,d)else match n6 b (Z a)with
  |none=>(a,d)
  |some g=>gX b f (gW a<|fw (n7 a g.1) g.1)<|gW d<|fw (n7 a g.1) g.2
def RY rows f a:gX rows f [] a=([],a):=by
 cases f with
 |zero=>rfl
 |succ f=>rw[gX,q J]
def L1{a}f{b}d(g:n6 a (Z b)=none):gX a f b d=(b,d):=by
 cases f with
 |zero=>rfl
 |succ f=>rw[gX,g];split<;>rfl
def RZ{a}{f}{b}g{d}(i:b≠[])(k:n6 a (Z b)=ae d):gX a (f+1) b g=gX a f (gW b<|fw (n7 b d.1) d.1) (gW g<|fw (n7 b d.1) d.2):=by rw[gX,j i,k]
def B0(a m:E U):G->E mq->E U->E U->E U
 |0,_,_,_=>[]
 |f+1,rows,pw,b=>if(gX rows (Z m) pw b).1=[]then(gX rows (Z m) pw b).2 else B0 a m f (rows++[((gX rows (Z m) pw b).1.length,(gX rows (Z m) pw b).1,(gX rows (Z m) pw b).2)]) (fm pw a m) (ml b [0,1])
def R0(a m:E U):E U:=B0 a m (Z m+1) [] [1] [1]
structure HW(m:E U)(T:G)(x:mq):Prop where
 ne:x.2.1≠[]
 len:x.2.1.length=x.1
 ez:Ez m T x.2.1
 oz:Pz 9 T x.2.2
def HW.le{m}{T b}{x:mq}(a:HW m T x)(k:T<=b):HW m b x:=⟨a.ne,a.len,a.ez.le k,a.oz.le (aN _) k⟩
def ajU{m}{T d}{x:mq}{a p}(b:HW m T x)(f:Ez m d a)(t:Pz 9 d p)(D:Z a=x.1):Ez m (2*d+2*T+1) (gW a<|fw (n7 a x.2.1) x.2.1)/\Pz 9 (2*d+2*T+1) (gW p<|fw (n7 a x.2.1) x.2.2)/\Z (gW a<|fw (n7 a x.2.1) x.2.1)<Z a/\Ht (2^(d+T)) (K<|n7 a x.2.1)/\I x.2.1 (Z a-1) 0≠0:=by
 have C:=cR.2 b.ne;have u:=b.len;have g:I x.2.1 (Z a-1) 0≠0:=by rw[(Y:Z a-1=Z x.2.1-1)];exact b.ez.1.can.ne b.ne
 have k:Ht (2^(d+T)) (K<|n7 a x.2.1):=by rw[kv];exact f.1.ht.ajP b.ez.1.ht (i:=Z a-1) (j:=Z a-1) g
 have l:=f.1.sub<|b.ez.1.Hz k;have n:=t.sub<|b.oz.Hz k;have s:Z (gW a<|fw (n7 a x.2.1) x.2.1)<=Z a-1:=by
  refine Hy l.can λi H=>?_
  rw[BJ,wO];by_cases c:i=Z a-1
  .rw[c,n7,tE,mG,nV _ g,lF];grind
  .have v:I a i 0=0:=gk a Y;have z:I x.2.1 i 0=0:=gk _ Y;rw[v,z,dU];grind
 have A:=f.1.len;have B:=f.2;refine⟨⟨⟨l.can,Y,l.ht.le<|eU o Y⟩,Y⟩,⟨n.can,by have:=n.len;omega,n.ht.le<|eU o Y⟩,Y,k,g⟩
def ajV{m:E U}{T:G}{a:E mq}(k:∀x∈a,HW m T x):∀(f d:G)(b g:E U),Z b<f->Ez m d b->Pz 9 d g->Ez m ((d+2*T+1)*2^Z b) (gX a f b g).1/\Pz 9 ((d+2*T+1)*2^Z b) (gX a f b g).2/\((gX a f b g).1=[]\/n6 a (gX a f b g).1.length=none)
 |0,_,_,_,l,_,_=>aJ l<|oT _
 |f+1,d,b,g,l,he,ho=>by
  have s:0<2^Z b:=ko o;have t:=Ke (d+2*T+1) s;by_cases n:b=[]
  .subst n;rw[RY];exact⟨he.le Y,ho.le (aN _) Y,.inl J⟩
  .cases i:n6 a (Z b)with
   |none=>
    rw[L1 _ _ i]
    exact⟨he.le Y,ho.le (aN _) Y,.inr i⟩
   |some y=>
    rw[RZ g n i]
    have u:=k _<|L0 i
    let ⟨s1,s2,v,_⟩:=ajU u he ho J
    let ⟨r1,z,A⟩:=ajV k f (2*d+2*T+1) _ _ Y s1 s2
    have p:(2*d+2*T+1+2*T+1)*2^Z (gW b<|fw (n7 b y.1) y.1)<=(d+2*T+1)*2^Z b:=by rw[(Y:2*d+2*T+1+2*T+1=(d+2*T+1)*2),tn,<-ajW];exact ja _<|eU o v
    exact⟨r1.le p,z.le (aN _) p,A⟩
def ajX{a b p d:E U}{g}(l:aq r 75 [aQ g,S .q b] (S .q p))(m:aq r 74 [S .q a,S .q p] (S .q d)){i k}(t:i<k):
  CX r 79 [S .q a,S .q b,.c<|.P i 0] [(i,.box 44 0<|av .q g)] k (S .q d) [(i,.box 44 0<|av .q g)] k:=by
 refine awf (λ_=>i) (fm0:=[(2,.box 44 0<|av .q g)]) (fm0':=[(2,.box 44 0<|av .q g)]) (vs0:=[S .q a,S .q b,.c<|.P 2 0]) Tryz.func79 J J ?_ J J J ?_ ?_ ?_ ?_ J ?_ J (by decide:([2]:E G).Nodup)
 .exact e J<|w<|rc J J l<|rc J J m<|O J<|bX<|MQ (st':=⟨[(5,S .q d)],[u5 [2],(2,.box 44 0<|av .q g)],3,[]⟩) aY<|agy cp J
 .intro n f;have:n=2:=by simpa using f
  subst this;exact⟨o,by simpa using t⟩
 .intro a ha b hb _;have ha:a=2:=Aq;have hb:b=2:=vp;rw[ha,hb]
 .intro n f;have:n=2:=by simpa[cO,AV.al,b8,C.al,av]using f
  simp[this]
 .intro n b hb x s;simp only[b9,bQ,Ev,or_false]at hb;rcases hb with⟨_,rfl⟩;simp[aC.al,b8,C.al,av]at s
 .intro n b hb x s;simp only[b9,bQ,Ev,or_false]at hb;rcases hb with⟨_,rfl⟩;simp[aC.al,b8,C.al,av]at s
section
variable{n:G}{sl sl':E (G×AV)}{mem bT:E (G×aC)}{nx n0 cu i i':G}{gd gd':E (G×Bool)}{ops:Array Oper}{draw:Bool}{os dN:E Oper}{ks dA:E Ks}{p:Pr}{R:St->Prop}{d:G}{ty:TypeId}{pos:String}{iB:Array Edge}
def ajY{u}{args}{B}{f}{vs}{l}{fm b}{A}(h:runs dE n nx draw ops.toList os i ⟨sl,mem,n0,gd⟩ .t ks=(⟨ae d,.call ⟨.value u,args,B⟩,ty,pos,iB,none⟩::dN,i',⟨sl',bT,cu,gd'⟩,p,dA))
  (ht:xn ⟨sl',bT,cu,gd'⟩ u args.toList=ae (f,vs,l)) (hf:CX r f vs fm (1000000*nx+1000*i') A b (1000000*nx+1000*i')) (D:LX fm bT) (hs:b.map (·.1)=fm.map (·.1))
  (hk:RG r n ops draw nx (i'+1) dN ⟨(d,A)::sl',b++bT,cu,gd'⟩ (dA++[(bH (u::args.toList)++(cV l++cV (fm.map (·.1))),fR<|(Key.s d,ae<|Info.v A)::(pO b fm++kM (1000000*nx+1000*i') b))]) R)
  (H:xf (1000000*nx+1000*i') (cO vs)=af:=by rfl) (N:uh (1000000*nx+1000*i') fm=af:=by rfl) (P:AD (1000000*nx+1000*i') fm A.al=af:=by rfl) (T:AE (1000000*nx+1000*i') fm b=af:=by rfl)
  (hp:p:=by exact Cy) (dn:Nat.blt d n=af:=by rfl):RG r n ops draw nx i os ⟨sl,mem,n0,gd⟩ ks R:=
 jJ cp h hp (Xv (λj=>by
  have o:=aaF j J J (cQ dn) J ht hf H N P T D.get;intro F C Q m q g W a K c z X w;refine o F C Q m q g W a K (λy k=>?_) z X<|λE G I L=>w E G I<|L.weaken<|λy k=>?_
  .omega
  .rcases k with k|k
   .exact .inl k
   .omega) awk (awj hs) (λx e=>by
   simp only[dz,fL,bg]at e;rcases e with((h|h)|h)|h
   .exact eH _<|eP _ (u::args.toList) x uf
   .exact eH _ (eP _ (u::args.toList) x<|by simp only[dz,lQ,fL,bg];exact .inr h)
   .exact gx _<|eH _<|kg _ l x h
   .exact gx _<|gx _<|kg _ _ x h) (λ_ h=>h) hk)
end
def ajZ:aq r 78 [y 0] (S .q [1]):=iV (l:=[]) M e9 J J
def tB(t:G):G->G
 |0=>0
 |i+1=>((i+1)*(t+40)+2*tB t i+1)*16
def aw8 t:tB t 0=0:=rfl
def B1 t i:tB t (i+1)=((i+1)*(t+40)+2*tB t i+1)*16:=rfl
def aw9 t i:tB t i<=tB t (i+1):=by rw[B1];omega
def aw'{t}(a:t<=200):∀i,i<=6->tB t i<=400000000000:=by have b:=aw8 t;have d:tB t 1=(1*(t+40)+2*tB t 0+1)*16:=B1 t 0;have f:tB t 2=(2*(t+40)+2*tB t 1+1)*16:=B1 t 1;have g:tB t 3=(3*(t+40)+2*tB t 2+1)*16:=B1 t 2;have k:tB t 4=(4*(t+40)+2*tB t 3+1)*16:=B1 t 3;have l:tB t 5=(5*(t+40)+2*tB t 4+1)*16:=B1 t 4;have m:tB t 6=(6*(t+40)+2*tB t 5+1)*16:=B1 t 5;intro i n;have:i=0\/i=1\/i=2\/i=3\/i=4\/i=5\/i=6:=Y;rcases this with rfl|rfl|rfl|rfl|rfl|rfl|rfl<;>omega
structure MpH(m:E U)(t i:G)(a:E mq)(pw o:E U):Prop where
 hr:∀x∈a,HW m (tB t i) x
 hp:Ez m ((i+1)*(t+40)) pw
 ho:Pz 9 ((i+1)*(t+40)) o
 lo:o.length<=i+1
def aj0:∀a:E mq,(aC.mp ak af<|u7 a).al=[]
 |[]=>rfl
 |x::b=>by have:=aj0 b;simp only[aC.al,u7,gM,lL,b8,C.al]at this⊢;simpa using this
def HX rows{b a}{rest}(g:As b.sl a.sl)(i:Cu b.mem a.mem)(k:a.mem=(1000000,.mp ak af<|u7 rows)::rest)(d:(At (1000000*a.nx) a.sl&&uh (1000000*a.nx) rest&&Nat.ble 2 a.nx)=af:=by rfl):Wk b a:=by refine wk g i ?_;simp only[cG]at d;obtain⟨⟨l,m⟩,f⟩:=d;have f:=cQ f;have n:Nat.blt 1000000 (1000000*a.nx)=af:=axb Y;have p:Nat.ble 1 a.nx=af:=axb Y;rw[k,uh,aj0,xf,l,m,n,p];rfl
abbrev mpX(a b:E U):aC:= .box 104 0 [.S .q a,.S .q b]
def axc{m a}{t}(hm:du m)(ha:Ez m t a)(ht:t<=200):aq r 26 [S .q a,S .q m] (S .q<|R0 a m):=by
 have h2:=hm.l2;have h5:=hm.l5;have B:=(YX 1 0 o).aji hm.pz hm.ne (d:=0) (s:=100) b6 o o o o;rw[show fX [1] m=[1]by rw[fX,q b6]]at B;obtain⟨C,D⟩:∃C,C=R0 a m:=⟨_,J⟩;rw[<-D];refine aS Tryz.func26 ?_;refine e J<|w<|rmk ak af J<|O J ?_;refine w<|rc J J ajZ<|rc J J B<|rc J J ajZ<|O J ?_;refine ad6 (λ_:Unit=>⟨[],[],200,[]⟩) (λ_=>C=[]) (λ_ h=>?_)<|λK=>?_
 .rw[h];exact e J<|bX<|iZ cp J<|bq.nil _
 refine e J<|aA<|bx (α:=G×E mq×E U×E U) (λx=>⟨[(0,S .q a),(1,S .q m),(5,.c<|.X 1000000),(6,S .q x.2.2.1),(7,S .q x.2.2.2),(22,y<|(Z m:V)+1),(23,y x.1)],[(1000000,.mp ak af<|u7 x.2.1)],10,[]⟩) (λx=>x.1<=Z m+1/\MpH m t x.1 x.2.1 x.2.2.1 x.2.2.2/\B0 a m (Z m+1-x.1) x.2.1 x.2.2.1 x.2.2.2=C) (λx=>Z m+1-x.1) (0,[],[1],[1]) ⟨bm _,⟨λx n=>(by cases n),aw4 hm _,YX 9 _ o,aN _⟩,D.symm⟩ (HX _ (bP J) ⟨bR J,M⟩ J) ?_;clear D B;rintro⟨i,b,pw,z⟩ ⟨hi,H,Q⟩;simp only at hi H Q;refine e J<|bA<|F J (λh=>?_)<|λh=>?_;rotate_left
 .have h:i=Z m+1:=by have h:¬(i:V)<(Z m:V)+1:=bh h;omega
  subst h;rw[jA,B0]at Q;exact bD<|fp (K () Q.symm) aY
 clear K;have h:i<Z m+1:=by have h:(i:V)<(Z m:V)+1:=aX h;omega
 have hle:=H.hp.1.len;have R:=H.hp.2;let ⟨R1,R2,R3⟩:=ajV H.hr (Z m) _ pw z R H.hp H.ho;have hB:((i+1)*(t+40)+2*tB t i+1)*2^pw.length<=tB t (i+1):=by rw[B1];exact ja _<|bZ (eU o (Y:pw.length<=4)) o
 have hBb:=aw' ht (i+1) Y;have hBm:=aw9 t i;obtain⟨v,Qw⟩:∃v,v=(gX b (Z m) pw z).1:=⟨_,J⟩;obtain⟨W,Ng⟩:∃W,W=(gX b (Z m) pw z).2:=⟨_,J⟩;have A:gX b (Z m) pw z=(v,W):=by rw[Qw,Ng]
 rw[(Y:Z m+1-i=(Z m-i)+1),B0,A]at Q;rw[A]at R1 R2 R3;simp only at R1 R2 R3 Q;clear Qw Ng;refine aG<|bA<|aA<|e J ?_;refine nP ⟨[(0,S .q a),(1,S .q m),(5,.c<|.X 1000000),(6,S .q pw),(7,S .q z),(8,.c<|.P 11003000 0),(22,y<|(Z m:V)+1),(23,y i)],[(1000000,.mp ak af<|u7 b),(11003000,mpX v W)],50,[]⟩ ?_<|λK=>?_;rotate_left
 .refine aA<|bx (α:=G×E U×E U) (λx=>⟨[(0,S .q a),(1,S .q m),(5,.c<|.X 1000000),(6,S .q pw),(7,S .q z),(8,.c<|.P 11003000 0),(22,y<|(Z m:V)+1),(23,y i)],[(1000000,.mp ak af<|u7 b),(11003000,mpX x.2.1 x.2.2)],13,[]⟩) (λx=>Z x.2.1<x.1/\gX b x.1 x.2.1 x.2.2=(v,W)/\∃L,(L+2*tB t i+1)*2^Z x.2.1<=tB t (i+1)/\Ez m L x.2.1/\Pz 9 L x.2.2) (λx=>x.1) (Z m,pw,z) ⟨R,A,_,hB,H.hp,H.ho⟩ (HX _ (bP J) ⟨bR J,bE J J,M⟩ J) ?_;clear A;rintro⟨f,g,jL⟩ ⟨hf,A,L,hS,he,hq⟩;simp only at hf A hS he hq;refine bA<|e J<|F J (λl=>?_)<|λl=>?_;rotate_left
  .have l:g=[]:=by have l:¬(Z g:V)>0:=bh l;exact gA Y
   subst l;rw[RY]at A;obtain⟨rfl,rfl⟩:=Prod.mk.inj A;exact bD<|fp K<|HX _ (bP J) (ny J) J
  have e0:g≠[]:=λc=>by subst c;cases l
  have hel:=cR.2 e0;have ay':=he.1.len;have T:=ajR (Z g) b;refine aG<|aA<|e J ?_;cases N:n6 b (Z g)with
  |none=>
   rw[N]at T
   rw[L1 _ _ N]at A
   obtain⟨rfl,rfl⟩:=Prod.mk.inj A
   refine w<|rlk J J J J J J J J J T J<|O J ?_
   refine bA<|e J<|F J (λ_=>oc<|rH<|IF<|oS<|oe<|fp K<|HX _ (bP J) (ny J) J)<|λh=>gD
  |some cN=>
   rw[N]at T
   obtain⟨p,u⟩:=cN
   have n:=H.hr _<|L0 N
   let ⟨s1,s2,s3,s4,s5⟩:=ajU n he hq J
   obtain⟨f,rfl⟩:∃k,f=k+1:=⟨f-1,Y⟩
   rw[RZ jL e0 N]at A
   have hlx:Z p=Z g:=n.len
   have h22:2^Z g=2*2^(Z g-1):=by rw[<-ajW,(Y:(Z g-1).succ=Z g)]
   have VK:0<2^(Z g-1):=ko o
   have hS2:2*(L+2*tB t i+1)<=tB t (i+1):=by refine bZ ?_ hS;rw[h22,<-tn,ic (L+2*tB t i+1) 2];exact Ke _ VK
   have en:ah ((Z g:V)-1)=Z g-1:=Y
   have hdiv:aq r 73 [aQ (I g (ah<|(Z g:V)-1) 0),aQ<|I p (ah<|(Z g:V)-1) 0] (.t [(af,av .q<|n7 g p),(ak,[.I .i64 0])]):=by rw[en];exact ajL (k:=100000000000) _ _ s5 (he.1.qs Y _) (n.ez.1.qs Y _) o
   have axg:=n.ez.1.YT (s:=100000000000) (s4.z4 Y) o Y o
   have axh:=he.1.YS (n.ez.1.Hz s4) (s:=100000000000) o o Y Y o
   have axi:=n.oz.YT (s:=100000000000) (s4.z4 Y) o Y o
   have axj:=hq.YS (n.oz.Hz s4) (s:=100000000000) o o Y Y o
   refine w<|rlk J J J J J J J J J T J<|O J ?_
   refine bA<|e J<|F J (λh=>gD)<|λ_=>aG ?_
   refine w<|rc J J hdiv (O J ?_) (hp:=aH)
   refine w<|agz J J J<|λkk=>O J ?_
   refine cL<|ajY J J (ajX axg axh o) ⟨J,M⟩ J<|ajY J J (ajX axi axj o) ⟨J,M⟩ J<|O J<|fT<|a6 (f,gW g<|fw (n7 g p) p,gW jL<|fw (n7 g p) u) ⟨fY s3<|Nat.le_of_lt_succ hf,A,_,?_,s1,s2⟩ (dO f)<|HX _ (bP J) (ny J) J
   rw[(Y:2*L+2*tB t i+1+2*tB t i+1=(L+2*tB t i+1)*2),tn,<-ajW]
   exact bZ (ja _<|eU o s3) hS
 refine bA<|e J<|F J (λl=>?_)<|λl=>aG ?_
 .have l:(Z v:V)=0:=eS l;have l:v=[]:=gA Y;rw[q l]at Q;subst Q;refine e J<|bX ?_;repeat(first|refine da ?_|refine mz ?_|refine m0 ?_)
  exact atR J
 have l:v≠[]:=λc=>by subst c;cases l
 rw[j l]at Q;have nB:=R3.resolve_left l;have JB:=ajS (Z v) v W b nB;refine w<|rmu J J J J J J J J J J JB<|O J ?_;have azb:=jQ (Y:i+1<=6) (Y:t+40<=240);let ⟨z1,z2,_,I'⟩:=YY hm (HS H.hp.1) (HS ha.1) H.hp.2 ha.2 Y;have hum:=ajh (s:=1000) H.ho HT o o Y o;have Ob:Z (ml z [0,1])<=Z z+2-1:=Q2 H.ho.can HT.can;have hlo:=H.lo;refine cL<|rc J J I'<|rc J J Y1<|rc J J hum<|O J ?_;refine bU<|rt J (hp:=aH) ?_;refine a6 (i+1,b++[(Z v,v,W)],fm pw a m,ml z [0,1]) ⟨h,⟨λx n=>?_,?_,?_,?_⟩,?_⟩ (Y:Z m+1-(i+1)<Z m+1-i) ?_;rotate_right
 .refine HX (b++[(Z v,v,W)]) ⟨sR J,sR J,sR J,sR J,sR J,sR J,sE J ?_,M⟩ ⟨bR J,M⟩ J;exact bl y (Y:(i:V)+1=((i+1:G):V))
 .rcases bg.1 n with n|n
  .exact(H.hr x n).le hBm
  .rw[iM.1 n];exact⟨l,J,R1.le hB,R2.le (aN _) hB⟩
 .exact(show Ez m _ (fm pw a m)from⟨z1,z2⟩).le (by rw[fZ (i+1) 1,hY];omega)
 .have:=H.ho.mul HT o;exact⟨this.can,(Y:Z (ml z [0,1])<=9),this.ht.le<|eU o<|by rw[fZ (i+1) 1,hY];omega⟩
 .show Z (ml z [0,1])<=i+1+1;omega
 .show B0 a m (Z m+1-(i+1)) _ _ _=C;rw[(Y:Z m+1-(i+1)=Z m-i)];exact Q
def Zb{P}{n}{x d}{g}{f:vZ}{Q}{i:Type}(b:i->St)(k:i->Prop)(a:∀m,k m->TJ P n d (b m) f Q)(l:(∀m,k m->iC n .normal (b m) f (Df P d Q))->TJ P n x g f (Df P d Q)):TJ P n (.seq x d) g f Q:=nK<|l λm p=>m9<|a m p
def R4{n}{f}{a:vZ}{Q}{b:Type}{d:b->St}{i:b->Prop}{k:b->G}{x}{g}{P}{l}(m:iC n .normal f a Q):TJ P n (.exit g) f a (Df P l<|JS d i k x a<|Gv g Q):=U9<|Va<|Vd<|Vc m
abbrev lN:E (G×AV):=[(4,.c<|.P 1000000 0),(5,.c<|.P 2000000 0),(8,.c<|.P 5001000 0)]
abbrev kN(a:E (E U))(v:U):E (G×aC):=[(4000000,.vec 29 LQ a),(2000000,.box 70 0 [.X 4000000]),(5001000,.box 44 0<|av .q v),(1000000,.box 44 0 zR)]
structure Ew(N n L:G)(a:E (E U))(v:U):Prop where
 nN:n<=N
 N4:N<=4
 ex:∃T,T+1<=L*4^(N-n)/\u6 N n T a
 hv:Ht (2^((N-n)*(L*256))) (K v)
def lt4{N n L}(a:N<=4):L*4^(N-n)<=L*256:=ja _<|bZ (eU o (Y:N-n<=4)) o
def Ew.step{N n d k}{a}{v}(b:Ew N (n+1) d a v)(l:nr a (n+1) (n+1)=ae k):Ew N n d (jv (jH a k n) n ((jH a k n).getD n []) n) (qh v k n*I ((jH a k n).getD n []) n 0):=by
 let ⟨T,u,hr⟩:=b.ex;have x:=b.nN;let ⟨p1,m,p,s⟩:=hr.Za Y l;have i:=hr.sw (k:=k) Y p1;have f:=i.pz n;rw[m]at f⊢;have g:Ht (2^((N-(n+1))*(d*256))) (K<|qh v k n):=by
  unfold qh;split
  .exact b.hv
  .exact b.hv.ajQ
 have e:N-n=(N-(n+1))+1:=Y;refine⟨Y,b.N4,⟨4*T+1,?_,i.el Y f s p⟩,?_⟩
 .rw[e,gK,<-tn];omega
 .have t:=g.Y9<|f.ht.RX n;refine t.le ?_;rw[<-kv];refine eU o ?_;have z:=lt4 (N:=N) (n:=n+1) (L:=d) b.N4;rw[e,fZ,hY];omega
def axl{m a}{t}(hm:du m)(ha:Ez m t a)(ht:t<=10000):aq r 22 [S .q a,S .q m] (aQ<|NR (Z m-1) (cZ a m<|Z m-1) 1):=by
 obtain⟨n,hn⟩:∃n,Z m=n+1:=⟨Z m-1,by have:=hm.l2;omega⟩;have h5:=hm.l5;have JX:Z m-1=n:=Y;have hz:=Eu hm ha Y;rw[JX];have A:∀i,Z (cZ a m i)=i:=λi=>by rw[cZ,c7,qR]
 have z:Ew n n (t+101) (cZ a m n) 1:=by
  refine⟨aN _,Y,⟨t+100,by rw[jA,pW,qG];omega,A n,λi=>?_,λi hi=>?_⟩,by rw[jA,pM];exact Ht.one o⟩
  .by_cases h:i<n
   .rw[cZ,aO,jn,lp h];exact(hz i Y).1.le (aN _) Y
   .rw[aO,jB<|by rw[A];omega];exact Pz.nil _ _
  .rw[cZ,aO,jn,lp hi];have:=(hz i Y).2;show Z (br a m i)<=n;omega
 obtain⟨R5,W⟩:∃R5,R5=NR n (cZ a m n) 1:=⟨_,J⟩;rw[<-W];refine agr (nx:=1) (n:=125) J J J J J J J ?_;refine kr jc J<|kr jc J<|nK<|zK jc ?_;refine rcN J J (ajJ a m) o (λid bc=>?_) (λid b hb=>(RU id b hb).1) (λid b hb=>(RU id b hb).2)<|λ_=>O J<|rW ?_
 .rw[iM.1 bc];decide
 refine JU (st':=⟨(17,.c<|.X 3002002)::na yd,(4000000,.vec 29 LQ [])::[(3002002,.dS 122 [] z7),(3002001,.box 29 0 [.S .q m]),(3002000,.box 29 0 [.S .q a]),(2000000,.box 70 0 [.X 4000000]),(1000000,.box 44 0 zR)],5,[]⟩) (ass 4000000 29 LQ (bP J) ⟨.inl<|bR J,.inl<|bR J,.inl<|bR J,.inr ⟨_,_,J,J⟩,.inl<|bR J,M⟩ J<|xX.of J) ?_;refine JU (st':=⟨(17,.c<|.X 3002002)::na yd,(3002002,.dS 122 [] z7)::mN a m (cZ a m 0),5,[]⟩) (wk (bP J) ⟨bR J,bR J,bR J,bR J,bR J,bE J J,M⟩) ?_;refine ado (n0:=125) (nI:=21) (p:=18) (p2:=19) (cid:=3002002) (f:=122) (capsI:=z7) (wsI:=[.c (.P 3002001 0),.c<|.P 3002000 0]) (Sc:=yd) (M:=mN a m<|cZ a m 0) (Mo:=mN (br a m n) m<|cZ a m n) (bo:=af) (xid:=1) J J J J J J J J (o:2+1<=21) (o:1<=5) (o:18<125) (o:19<125) o J J ?_ J ?_ ?_ (RT J) (λid b hb=>?_) ?_ ?_
 .intro s hs;simp only[yd,b9,Ev,or_false]at hs;rcases hs with rfl|rfl<;>rfl
 .intro t v ht hv;have:=xE ht;simp only[na,yd,gM,En,b9,bQ,Ev,or_false]at this;rcases this with⟨_,rfl⟩|⟨_,rfl⟩|⟨_,rfl⟩<;>exact aJ (iM.1 hv) o
 .intro id b hb;refine(afY<|λe=>?_).trans hb;subst e;cases hb
 .exact⟨(RT (L:=mN (br a m n) m<|cZ a m n) J id b hb).1,(xX.of (K:=5000000) (m:=mN (br a m n) m<|cZ a m n) J) id b hb⟩
 .intro R ok e1 e2 e3 e4 e5 e6 e7;refine aw5 (R:=R) ok e3 e2 hm ha Y hn (λi hi=>⟨⟨[(7,S .q<|br a m i),(4,.c<|.P 1000000 0),(5,.c<|.P 2000000 0)],z8::mN (br a m i) m (cZ a m i),31,[]⟩,(o:1<=31),J,?_,?_⟩) J
  .rw[e1,e2,e4,e5,e6];exact kt Gx J<|agB aY
  .rw[e1,e7];refine rW (Hr Gx<|rl LQ [br a m i] J J (ra J J J J J J J J J ?_ ?_<|arE cp J J J J J (Nat.lt_of_sub_eq_succ J)<|O J ?_))
   .show(Z (cZ a m i)+1+(Z (cZ a m i)+1)/4+192)*24<=_;rw[A];omega
   .show(Z (cZ a m i)+1)*1<=_;rw[A];omega
   .refine v5<|A2 (st':=⟨[],z8::mN (br a m i) m (cZ a m<|i+1),42,[]⟩) (arF (mw 4000000 31003000) M ⟨bE J J,bE J J,bE J J,bE J ?_,bE J J,bE J J,M⟩ J (asx J)<|xX.of J)<|Xx J (o:1<=42) J;show aC.vec 29 LQ (cZ a m i++[br a m i])=aC.vec 29 LQ (cZ a m<|i+1);rw[cZ,cZ,Ag,fL];rfl
 refine v5<|m9 ?_;generalize cZ a m n=B at*;refine JU (st':=⟨na yd,[(4000000,.vec 29 LQ B),(2000000,.box 70 0 [.X 4000000]),(1000000,.box 44 0 zR)],5,[]⟩) aY ?_;refine zK jc<|rc J J (Ll 1 o o)<|O J ?_;have azc:Z B=n:=by let ⟨_,_,hr⟩:=z.ex;exact hr.len
 refine Zb (λw:U=>⟨[(4,.c<|.P 1000000 0),(8,.c<|.P 5001000 0)],[(5001000,.box 44 0<|av .q w),(1000000,.box 44 0 zR)],60,[]⟩) (λw=>w=R5) (λw hw=>?_)<|λu=>?_
 .subst hw;exact kr jc J<|U'<|Xw cp J<|bq.refl _
 refine kr jc J<|rW<|JV (α:=G×E (E U)×U) (λx=>⟨(9,y x.1)::lN,kN x.2.1 x.2.2,7,[]⟩) (λx=>Ew n x.1 (t+101) x.2.1 x.2.2/\NR x.1 x.2.1 x.2.2=R5) (λx=>x.1) (n,B,1) ⟨z,W.symm⟩ (wk ⟨sE J ?_,sR J,sR J,sR J,M⟩<|ny J) ?_
 .exact bl y Y
 clear z W hz A;rintro⟨g,d,v⟩ ⟨H,hR⟩;simp only at H hR;refine nK<|kr jc J<|uB J (λh=>?_)<|λh=>?_;rotate_left
 .have h:g=0:=by have h:¬(g:V)>0:=bh h;omega
  subst h;exact R4<|A2 (st':=⟨[(4,.c<|.P 1000000 0),(8,.c<|.P 5001000 0)],[(5001000,.box 44 0<|av .q v),(1000000,.box 44 0 zR)],60,[]⟩) aY<|u v hR
 clear u;obtain⟨g,rfl⟩:∃kL,g=kL+1:=⟨g-1,by have h:(g:V)>0:=aX h;omega⟩;let ⟨T,hT,hr⟩:=H.ex;have hqN:=H.nN;have hT4:=lt4 (N:=n) (n:=g+1) (L:=t+101) H.N4;have hlr:=hr.len;have hVb:(n-(g+1))*((t+101)*256)<=4*((t+101)*256):=eB _ (by have:=H.N4;omega);have hT1:T<=3000000:=Y;have hV1:(n-(g+1))*((t+101)*256)<=12000000:=Y;refine v3<|m9<|nK<|rW<|kr jc J ?_;refine Zb (λc:G=>⟨(10,y<|(c:V)-1)::(9,y (g+1:G))::lN,kN d v,20,[]⟩) (λc=>c<=g+1/\nr d (g+1) c=nr d (g+1) (g+1)/\(c=0\/¬Z (d.getD (c-1) [])<g+1)) (λc hc=>?_)<|λu=>?_;rotate_left
 .refine rW<|JV (α:=G) (λc=>⟨(10,y<|(c:V)-1)::(9,y (g+1:G))::lN,kN d v,9,[]⟩) (λc=>c<=g+1/\nr d (g+1) c=nr d (g+1) (g+1)) (λc=>c) (g+1) ⟨aN _,J⟩ aY ?_;rintro c ⟨c1,c2⟩;refine nK (zK jc<|rg 35 J J (λF=>?_)<|λF=>?_)
  .have F:(c:V)-1>=0:=aX F;obtain⟨k,rfl⟩:∃k,c=k+1:=⟨c-1,Y⟩;have ek:ah (((k+1:G):V)-1)=k:=Y;refine O J (uB J (λC=>?_)<|λC=>?_) (hp:=aH)
   .have C:((Z (d.getD (ah<|((k+1:G):V)-1) []):G):V)<((g+1:G):V):=aX C;rw[ek]at C;refine v3 (m9<|rW<|kt jc J<|v5<|Gw k ⟨Y,?_⟩ (dO k)<|wk ⟨sE J ?_,sR J,sR J,sR J,sR J,M⟩<|ny J)
    .rw[<-c2,nr,q Y]
    .exact bl y Y
   .have C:¬((Z (d.getD (ah<|((k+1:G):V)-1) []):G):V)<((g+1:G):V):=bh C;rw[ek]at C;exact R4<|A2 (st':=⟨(10,y<|((k+1:G):V)-1)::(9,y (g+1:G))::lN,kN d v,20,[]⟩) aY<|u (k+1) ⟨c1,c2,.inr<|by rw[eD];omega⟩
  .have F:¬(c:V)-1>=0:=bh F;have hc:c=0:=Y;subst hc;exact O J<|uB J (λC=>by cases C)<|λ_=>R4<|A2 (st':=⟨(10,y<|((0:G):V)-1)::(9,y (g+1:G))::lN,kN d v,20,[]⟩) aY<|u 0 ⟨Y,c2,.inl J⟩
 obtain⟨c1,c2,c3⟩:=hc;refine nK<|kr jc J<|uB J (λF=>?_)<|λF=>v3<|m9 ?_
 .have F:(c:V)-1<0:=aX F;have hc:c=0:=Y;subst hc;have axm:nr d (g+1) (g+1)=none:=c2.symm;rw[Y6 axm]at hR;subst hR;refine zK jc<|rc J J (Ll 0 o o)<|O J<|U' ?_;refine Vb<|ade<|Vb<|aoM<|ade<|Vb ?_;exact Xw cp J<|bq.refl _
 have F:¬(c:V)-1<0:=bh F;obtain⟨k,rfl⟩:∃k,c=k+1:=⟨c-1,Y⟩;have c3:¬Z (d.getD k [])<g+1:=by
  rcases c3 with c3|c3
  .cases c3
  .rwa[eD]at c3
 have D:nr d (g+1) (g+1)=ae k:=by rw[<-c2,nr,j c3]
 have ek:ah (((k+1:G):V)-1)=k:=Y;have L2:ah (((g+1:G):V)-1)=g:=Y;let ⟨p1,p2,p3,p4⟩:=hr.Za Y D;have Hn:=H.step D;rw[Y7 D]at hR;have hs:=hr.sw (k:=k) Y p1;have Q:=hs.pz g;have pV:Ht (2^((n-(g+1))*((t+101)*256))) (K<|qh v k g):=by
  unfold qh;split
  .exact H.hv
  .exact H.hv.ajQ
 have m7:=pV.z4 (s:=1000000000) Y;have axn:=H.hv.z4 (s:=1000000000) Y;have QY:Z (jH d k g)=Z d:=ajO;refine Zb (λ_:Unit=>⟨(9,y (g+1:G))::lN,kN (jH d k g)<|qh v k g,30,[]⟩) (λ_=>True) (λ_ _=>?_)<|λu=>kr jc J<|uB J (λC=>?_)<|λC=>v3 ?_;rotate_left
 .have C:=Bh C;have L3:k≠g:=Y;have e1:jH d k g=(d.set (ah<|((k+1:G):V)-1)<|d.getD (ah<|((g+1:G):V)-1) []).set (ah<|((g+1:G):V)-1) (d.getD (ah<|((k+1:G):V)-1) []):=by rw[ek,L2,jH,j L3,RV]
  have e2:qh v k g= -v:=by rw[qh,j L3]
  rw[e1,e2]at u;refine zK jc<|vW (T:=LQ) (d.getD (ah<|((g+1:G):V)-1) []) J J J J J (by rw[ek];omega) (vW (T:=LQ) (d.getD (ah<|((k+1:G):V)-1) []) J J J J J (by rw[L2,oQ];omega)<|O J ?_) (hp:=aH);exact Hr jc<|rc J J (agf v<|axn.n.sm Y)<|O J<|A2 (st':=⟨(9,y (g+1:G))::lN,kN ((d.set (ah<|((k+1:G):V)-1)<|d.getD (ah<|((g+1:G):V)-1) []).set (ah<|((g+1:G):V)-1)<|d.getD (ah<|((k+1:G):V)-1) [])<| -v,30,[]⟩) aY<|u () M
 .have C:=zd C;have L3:k=g:=Y;have e1:jH d k g=d:=by rw[jH,q L3]
  have e2:qh v k g=v:=by rw[qh,q L3]
  rw[e1,e2]at u;exact A2 (st':=⟨(9,y (g+1:G))::lN,kN d v,30,[]⟩) aY<|u () M
 rw[p2]at hR Hn Q;have hg:=LY (rows:=d) p1 Y;generalize jH d k g=l at*;generalize qh v k g=v1 at*;have axo:l.getD g []=d.getD k []:=p2;generalize d.getD k []=p at*;refine kr jc J ?_ (hp:=aH);have hpq:l.getD (ah<|((g+1:G):V)-1) []=p:=by rw[L2];exact axo
 have hmul:=Qz (k:=1000000000) v1 (I p (ah<|((g+1:G):V)-1) 0) m7 ((Q.qs (s:=1000000000) Y) _) o;refine JU (st':=⟨(11,S .q p)::(9,y (g+1:G))::lN,kN l v1,31,[]⟩) (wk ⟨sE J ?_,sR J,sR J,sR J,sR J,M⟩<|ny J) ?_
 .rw[hpq]
 refine zK jc<|rc J J hmul (O J ?_) (hp:=aH);rw[L2];refine kr jc J ?_;refine rW<|JV (α:=G) (λi=>⟨(84,y g)::(85,y i)::(11,S .q p)::(9,y (g+1:G))::lN,kN (jv l g p i)<|v1*I p g 0,34,[]⟩) (λi=>i<=g) (λi=>g-i) 0 (bm _) (wk ⟨sE J ?_,sR J,sR J,sR J,sR J,sR J,sR J,M⟩<|ny J) ?_
 .exact bl y Y
 intro i hi;have hli:=LZ (rows:=l) (n:=g) (p:=p) i;have R6:=BZ (rows:=l) (n:=g) (p:=p) i Y i;rw[j (λh=>Gi _ h.1)]at R6;refine kr jc J<|nK<|uB J (λh4=>?_)<|λh4=>?_
 .have h4:i<g:=by have h4:(i:V)<(g:V):=aX h4;omega
  have ei:ah ((i:V))=i:=cx i;have L4:(jv l g p i).getD (ah<|(i:V)) []=l.getD i []:=by rw[ei];exact R6
  have Hs:=hs.pz i;refine v3<|m9<|nK<|rW<|kr jc J ?_;refine kr jc J (uB J (λh6=>?_)<|λh6=>v3<|v5<|m9<|kt jc J<|Gw (i+1) h4 (Y:g-(i+1)<g-i)<|wk ⟨sR J,sE J ?_,sR J,sR J,sR J,sR J,sR J,M⟩ ⟨bE J ?_,bR J,bR J,bR J,M⟩) (hp:=aH)
  .have h6:(Z ((jv l g p i).getD (ah<|(i:V)) []):V)=((g+1:G):V):=eS h6;rw[L4]at h6;have h6:Z (l.getD i [])=g+1:=Y;let ⟨z1,z2,z3⟩:=Y' Hs Q p4 h6 p3;have hle:Z (I (jv l g p i) (ah<|(i:V)) LQ.et)=g+1:=by show Z ((jv l g p i).getD (ah<|(i:V)) [])=g+1;rw[L4];exact h6
   have hdiv:aq r 73 [aQ (I ((jv l g p i).getD (ah<|(i:V)) []) (ah<|((g+1:G):V)-1) 0),aQ<|I p (ah<|((g+1:G):V)-1) 0] (.t [(af,av .q<|I (l.getD i []) g 0/I p g 0),(ak,[.I .i64 0])]):=by rw[L4,L2];exact ajL (k:=1000000000) _ _ p4 (Hs.qs Y _) (Q.qs Y _) o
   have axr:=Q.YT (s:=1000000000) (z3.z4 Y) o Y o;have vG:aq r 74 [S .q ((jv l g p i).getD (ah<|(i:V)) []),S .q<|fw (I (l.getD i []) g 0/I p g 0) p] (S .q<|BY (l.getD i []) p g):=by rw[L4];exact Hs.YS (Q.Hz z3) (s:=1000000000) o o Y Y o
   refine zK jc<|rc J J hdiv (O J ?_) (hp:=aH);refine Hr jc<|rc J J axr (rc J J vG<|vW (T:=LQ) (BY (l.getD i []) p g) J J J J J (by rw[ei,hli];omega) (O J<|v5<|m9<|kt jc J<|Gw (i+1) h4 (Y:g-(i+1)<g-i)<|wk ⟨sR J,sE J ?_,sR J,sR J,sR J,sR J,sR J,M⟩ ⟨bE J ?_,bR J,bR J,bR J,M⟩) (hp:=aH)) (hp:=aH)
   .exact bl y Y
   .rw[ei,jv,R6,q h6]
  .exact bl y Y
  .have h6:(Z ((jv l g p i).getD (ah<|(i:V)) []):V)≠((g+1:G):V):=HA h6;rw[L4]at h6;rw[jv,R6,j Y]
 .have h4:i=g:=by have h4:¬(i:V)<(g:V):=bh h4;omega
  subst h4;refine R4<|v5<|m9<|kt jc J<|Gw (i,jv l i p i,v1*I p i 0) ⟨Hn,hR⟩ (dO i)<|wk ⟨sE J ?_,sR J,sR J,sR J,M⟩<|ny J
  .exact bl y Y
def jg(a b f d:U):U:=a*d-b*f
def kH(a b m d k f g l i:U):U:=a*jg k f l i-b*jg d f g i+m*jg d k g l
def ns(t u v x a b d f g i k l m n p s:U):U:=t*kH b d f i k l n p s-u*kH a d f g k l m p s+v*kH a b f g i l m n s-x*kH a b d g i k m n p
def axs a b d f g i k l m n p s t u v x z A B D H N P Q T W L5 L6 L7 L8 L9 L':ns (a*z+b*H+d*T+f*L7) (a*A+b*N+d*W+f*L8) (a*B+b*P+d*L5+f*L9) (a*D+b*Q+d*L6+f*L') (g*z+i*H+k*T+l*L7) (g*A+i*N+k*W+l*L8) (g*B+i*P+k*L5+l*L9) (g*D+i*Q+k*L6+l*L') (m*z+n*H+p*T+s*L7) (m*A+n*N+p*W+s*L8) (m*B+n*P+p*L5+s*L9) (m*D+n*Q+p*L6+s*L') (t*z+u*H+v*T+x*L7) (t*A+u*N+v*W+x*L8) (t*B+u*P+v*L5+x*L9) (t*D+u*Q+v*L6+x*L')=ns a b d f g i k l m n p s t u v x*ns z A B D H N P Q T W L5 L6 L7 L8 L9 L':=by unfold ns kH jg;grind
abbrev Mx:=G->G->U
def er(A:Mx):U:=ns (A 0 0) (A 0 1) (A 0 2) (A 0 3) (A 1 0) (A 1 1) (A 1 2) (A 1 3) (A 2 0) (A 2 1) (A 2 2) (A 2 3) (A 3 0) (A 3 1) (A 3 2)<|A 3 3
def mulM(A B:Mx):Mx:=λi j=>A i 0*B 0 j+A i 1*B 1 j+A i 2*B 2 j+A i 3*B 3 j
def axt(A B:Mx):er (mulM A B)=er A*er B:=axs ..
def Ey{A B:Mx}(a:∀i b,i<4->b<4->A i b=B i b):er A=er B:=by unfold er;rw[a 0 0 o o,a 0 1 o o,a 0 2 o o,a 0 3 o o,a 1 0 o o,a 1 1 o o,a 1 2 o o,a 1 3 o o,a 2 0 o o,a 2 1 o o,a 2 2 o o,a 2 3 o o,a 3 0 o o,a 3 1 o o,a 3 2 o o,a 3 3 o o]
def Zc{P:G->Prop}(a:P 0)(b:P 1)(d:P 2)(f:P 3){n}(g:n<4):P n:=by
 match n,g with
 |0,_=>exact a
 |1,_=>exact b
 |2,_=>exact d
 |3,_=>exact f
def HY(A:Mx)(k n:G):Mx:=λi=>if i=n then A k else if i=k then A n else A i
def Zd(A:Mx)(n:G)(a:G->U):Mx:=λi j=>if i<n then A i j-a i*A n j else A i j
def B2(A:Mx)(n:G):Mx:=λi j=>if i=n then(if i=j then 1 else 0)else A i j
def idF:Mx:=λi j=>if i=j then 1 else 0
def axu:er idF=1:=by simp[er,idF,ns,kH,jg];try grind
def axv(A:Mx){k n}(b:n<4)(a:k<n):er (HY A k n)= -er A:=by
 revert k;refine Zc (P:=λn=>∀{k:G},k<n->er (HY A k n)= -er A) ?_ ?_ ?_ ?_ b
 .intro k a;exact aJ a<|oT _
 .intro k a;have:k=0:=Y;rcases this with rfl;all_goals
   simp[er,HY,ns,kH,jg]
   grind
 .intro k a;have:k=0\/k=1:=Y;rcases this with rfl|rfl;all_goals
   simp[er,HY,ns,kH,jg]
   grind
 .intro k a;have:k=0\/k=1\/k=2:=Y;rcases this with rfl|rfl|rfl;all_goals
   simp[er,HY,ns,kH,jg]
   grind
def axw(A:Mx){n}(b:n<4)(a:G->U):er (Zd A n a)=er A:=by
 refine Zc (P:=λn=>er (Zd A n a)=er A) ?_ ?_ ?_ ?_ b;all_goals
  simp[er,Zd,ns,kH,jg]
  try grind
def aj4(A:Mx){n}(k:n<4)(a:∀i,i<4->i≠n->A i n=0):er A=A n n*er (B2 A n):=by
 revert a;refine Zc (P:=λn=>(∀i,i<4->i≠n->A i n=0)->er A=A n n*er (B2 A n)) ?_ ?_ ?_ ?_ k
 .intro a;have b:=a 1 o o;have d:=a 2 o o;have f:=a 3 o o;simp[er,B2,ns,kH,jg,b,d,f];try grind
 .intro a;have g:=a 0 o o;have d:=a 2 o o;have f:=a 3 o o;simp[er,B2,ns,kH,jg,g,d,f];try grind
 .intro a;have g:=a 0 o o;have b:=a 1 o o;have f:=a 3 o o;simp[er,B2,ns,kH,jg,g,b,f];try grind
 .intro a;have g:=a 0 o o;have b:=a 1 o o;have d:=a 2 o o;simp[er,B2,ns,kH,jg,g,b,d];try grind
def axx(A:Mx){n}(a:n<4)(b:∀i,i<4->A i n=0):er A=0:=by rw[aj4 A a (λi d _=>b i d),b n a,ni]
def cz(a:E (E U))(n:G):Mx:=λi j=>if i<n then I (a.getD i []) j 0 else if i=j then 1 else 0
def aj5{N:G}(H:N<=4):∀(n T:G)(f:E (E U))(v:U),n<=N->u6 N n T f->NR n f v=v*er (cz f n)
 |0,T,f,v,_,_=>by have:er (cz f 0)=1:=(Ey λi g _ _=>by rw[cz,j<|oT _];rfl).trans axu;rw[this,lF];rfl
 |n+1,T,f,v,F,h=>by
  have J:=h.len;cases u:nr f (n+1) (n+1)with
  |none=>
   have m:=ajN u
   rw[Y6 u,axx (cz f<|n+1) (n:=n) Y<|λi x=>?_,dU]
   rw[cz]
   split
   .rename_i C;exact gk _ (by have:=m i C;omega)
   .rename_i C;exact j Y
  |some k=>
   rw[Y7 u]
   let ⟨p1,z,K,P⟩:=h.Za Y u
   have m:=h.sw (k:=k) Y p1
   have s:=m.pz n
   have Q:=LY (rows:=f) p1 Y
   have W:qh v k n*er (cz (jH f k n)<|n+1)=v*er (cz f<|n+1):=by
    by_cases l:k=n
    .rw[qh,q l,jH,q l]
    .have X:er (cz (jH f k n)<|n+1)=er (HY (cz f<|n+1) k n):=Ey λi g x D=>by
      show(if i<n+1 then I ((jH f k n).getD i []) g 0 else _)=(if i=n then cz f (n+1) k else if i=k then cz f (n+1) n else cz f (n+1) i) g;rw[Q];by_cases a:i=n
      .rw[q Y,q a,q a,cz,q Y]
      .rw[j a,j a];by_cases b:i=k
       .rw[q Y,q b,q b,cz,q Y]
       .rw[j b,j b];rfl
     rw[X,axv _ Y Y,qh,j l];grind
   rw[<-W]
   rw[z]at s⊢
   have A:Z (jH f k n)=N:=m.len
   generalize jH f k n=d at*
   generalize f.getD k []=p at*
   have t:=m.el Y s P K
   have c:er (cz (jv d n p n)<|n+1)=er (cz d<|n+1):=by
    refine(Ey λi g x D=>?_).trans<|axw (cz d<|n+1) (n:=n) Y<|λi=>if Z (d.getD i [])=n+1 then I (d.getD i []) n 0/I p n 0 else 0;show(if i<n+1 then I ((jv d n p n).getD i []) g 0 else _)=if i<n then cz d (n+1) i g-(if Z (d.getD i [])=n+1 then I (d.getD i []) n 0/I p n 0 else 0)*cz d (n+1) n g else cz d (n+1) i g
    rw[BZ n Y i];have e:cz d (n+1) n g=I p g 0:=by rw[cz,q Y,z]
    by_cases a:i<n
    .have o:cz d (n+1) i g=I (d.getD i []) g 0:=by rw[cz,q Y]
     rw[q Y,q a,e,o];by_cases b:Z (d.getD i [])=n+1
     .rw[q ⟨a,b⟩,q b,BY,BJ,wO]
     .rw[j (λh=>b h.2),j b,ni];grind
    .rw[j a,j<|λ(h:i<n/\Z (d.getD i [])=n+1)=>a h.1];rfl
   have r:=aj4 (cz (jv d n p n)<|n+1) (n:=n) Y (λi x B=>by
    rw[cz];split
    .exact gk _<|t.sh i Y
    .first
     |exact j B
     |rfl)
   have w:cz (jv d n p n) (n+1) n n=I p n 0:=by rw[cz,q Y,BZ n Y n,j<|λh=>Gi _ h.1,z]
   have y:er (B2 (cz (jv d n p n)<|n+1) n)=er (cz (jv d n p n) n):=Ey λi g x D=>by
    unfold B2 cz;by_cases a:i=n
    .rw[q a,j (Y:¬i<n)]
    .rw[j a];by_cases b:i<n
     .rw[q Y,q b]
     .rw[j Y,j b]
   rw[aj5 H n _ _ _ Y t,<-c,r,w,y,mG]
def sX(f:G->Rx):G->Rx
 |0=>0
 |k+1=>sX f k+f k
def aj6{M:Rx}{f g:G->Rx}(a:∀k,M∣f k-g k):∀n,M∣sX f n-sX g n
 |0=>kA _ _
 |n+1=>Ha (aj6 a n)<|a n
def aj7(p:E U):∀n,lx (List.take n p)=sX (λk=>K (I p k 0)*X k) n
 |0=>by rw[GV];exact mI
 |n+1=>by rw[ajg,aj7 p n];rfl
def Ze(f:G->Rx)(a:Rx):∀n,sX f n*a=sX (λk=>f k*a) n
 |0=>Rx.dw a
 |n+1=>by show(sX f n+f n)*a=sX (λk=>f k*a) n+f n*a;rw[Rx.gh,Ze f a n]
def aj8(f:G->Rx) a:sX f 4 a=f 0 a+f 1 a+f 2 a+f 3 a:=by show(0+f 0+f 1+f 2+f 3) a=_;rw[dP,dP,dP,dP,lD,tz]
def El(m a:E U):Prop:=bM a/\Z a<Z m
section
variable{m a b:E U}{t u w n:G}
def Ez.el(d:Ez m t a):El m a:=⟨d.1.can,d.2⟩
def R7(d:du m) a b:El m (fm a b m):=⟨wM<|BK _ _,xZ d.ne⟩
def Ma(d:du m)(f:El m a):∀i,El m (br a m i)
 |0=>f
 |_+1=>R7 d _ _
def EA(d:du m){A B}(g:sz A<Z m)(i:sz B<Z m)(f:lx m∣A-B):A=B:=by refine Bo<|uJ f ?_;have:=Hd A B;rw[eJ d.can];omega
def yf(f:du m)(d:E U):∀i,lx m∣lx (br d m i)-X i*lx d
 |0=>by rw[Wu,Rx.cY];exact kA _ _
 |i+1=>by have g:lx m∣lx (fm (br d m i) [0,1] m)-lx (br d m i)*lx [0,1]:=Es f.can f.ne;have k:=nk (yf f d i)<|kA (lx m)<|X 1;rw[RQ]at g;rw[DB,(fF:X i*X 1*lx d=X i*lx d*X 1)];exact mH g k
def z9(d:du m)(f:El m a) i:sz (lx<|br a m i)<Z m:=by have:=Ma d f i;rw[eJ this.1];exact this.2
def R8 d A:sz (K d*A)<=sz A:=pj λi f=>by rw[eF,jT f,dU]
def aj9(d:du m)(H:El m a)(N:El m b) i:lx (br (fm a b m) m i)=sX (λk=>K (I (br a m i) k 0)*lx (br b m k)) 4:=by
 have h:=d.l5;have v:=Ma d H i;have P:=v.2;have B:=d.l2;have Q:lx (br a m i)=sX (λk=>K (I (br a m i) k 0)*X k) 4:=by rw[<-aj7,jy Y]
 have x:∀A:Rx,(∀k,k<4->True)->lx m∣sX (λk=>K (I (br a m i) k 0)*lx (br b m k)) 4-lx (br a m i)*lx b:=λ_ _=>by have l:=aj6 (M:=lx m) (f:=λk=>K (I (br a m i) k 0)*lx (br b m k)) (g:=λk=>K (I (br a m i) k 0)*X k*lx b) (λk=>by have:=nk (kA (lx m)<|K<|I (br a m i) k 0)<|yf d b k;rwa[<-Rx.c9]at this) 4;rw[<-Ze,<-Q]at l;exact l
 have z:∀k,k<4->sz (lx<|br b m k)<Z m:=λk _=>z9 d N k
 refine EA d (z9 d (R7 d a b) i) ?_ ?_
 .have p:∀k,k<4->sz (K (I (br a m i) k 0)*lx (br b m k))<=Z m-1:=λk T=>by have l:=R8 (I (br a m i) k 0)<|lx<|br b m k;have:=z k T;omega
  have C:sz (sX (λk=>K (I (br a m i) k 0)*lx (br b m k)) 4)<=Z m-1:=by
   have W:=p 0 o;have c:=p 1 o;have B:=p 2 o;have l:=p 3 o;generalize s:(λk=>K (I (br a m i) k 0)*lx (br b m k))=f;have j:sz (f 0)<=Z m-1:=by rw[<-s];exact W
   have q:sz (f 1)<=Z m-1:=by rw[<-s];exact c
   have r:sz (f 2)<=Z m-1:=by rw[<-s];exact B
   have y:sz (f 3)<=Z m-1:=by rw[<-s];exact l
   show sz (0+f 0+f 1+f 2+f 3)<=_;have E:=xO (0+f 0+f 1+f 2)<|f 3;have F:=xO (0+f 0+f 1)<|f 2;have G:=xO (0+f 0)<|f 1;have e:=xO 0<|f 0;rw[je]at e;omega
  omega
 .have l:=yf d (fm a b m) i;have C:=nk (kA (lx m)<|X i)<|Es (a:=a) (b:=b) d.can d.ne;have D:=nk (yf d a i)<|kA (lx m)<|lx b;rw[Rx.c9]at D;exact mH l<|mH C<|mH (oE D)<|oE<|x 0 λ_ _=>trivial
def mP(a m:E U):U:=er<|cz (cZ a m<|Z m-1)<|Z m-1
def vb{i}(d:i<n):(cZ a m n).getD i []=br a m i:=by rw[cZ,aO,jn,lp d];rfl
def axy(g:du m)(p:El m a)(v:El m b):mP (fm a b m) m=mP a m*mP b m:=by
 have C:=g.l5;obtain⟨n,x⟩:∃n,n=Z m-1:=⟨_,J⟩;unfold mP;rw[<-x,<-axt];refine Ey λi d D H=>?_
 by_cases h:i<n
 .have f:cz (cZ (fm a b m) m n) n i d=lx (br (fm a b m) m i) d:=by rw[cz,q h,vb h];rfl
  rw[f,aj9 g p v i,aj8];have l:∀k,(K (I (br a m i) k 0)*lx (br b m k)) d=cz (cZ a m n) n i k*cz (cZ b m n) n k d:=λk=>by
   have z:cz (cZ a m n) n i k=I (br a m i) k 0:=by rw[cz,q h,vb h]
   rw[z,eF];by_cases s:k<n
   .have A:cz (cZ b m n) n k d=lx (br b m k) d:=by rw[cz,q s,vb s];rfl
    rw[A]
   .have:I (br a m i) k 0=0:=gk _ (by have:=(Ma g p i).2;omega);rw[this,ni,ni]
  simp only[l];rfl
 .have f:∀c:E U,∀k,cz (cZ c m n) n i k=if i=k then 1 else 0:=λc k=>by rw[cz,j h]
  show _=cz (cZ a m n) n i 0*cz (cZ b m n) n 0 d+cz (cZ a m n) n i 1*cz (cZ b m n) n 1 d+cz (cZ a m n) n i 2*cz (cZ b m n) n 2 d+cz (cZ a m n) n i 3*cz (cZ b m n) n 3 d;rw[f,<-f b d,f a,f a,f a,f a];have B:i=0\/i=1\/i=2\/i=3:=Y;rcases B with rfl|rfl|rfl|rfl<;>simp<;>grind
def HZ d:lx (gn d)=K d:=by rw[gn,tI,KK]
def aj'(f:du m){d}(g:Ht (2^t) (K d)):Ez m t (gn d):=by have i:=f.l2;have k:Z (gn d)<=1:=bZ (wP _) (by rw[oV];exact aN _);exact⟨⟨jF _,Y,by rw[HZ];exact g⟩,Y⟩
def H2(f:du m) d:El m (gn d):=by have g:=f.l2;have i:Z (gn d)<=1:=bZ (wP _) (by rw[oV];exact aN _);exact⟨jF _,Y⟩
def Zf(d:du m) f{i}(g:i<Z m-1):lx (br (gn f) m i)=K f*X i:=by
 have k:=d.l5;refine EA d (z9 d (H2 d f) i) ?_ ?_
 .have:sz (K f*X i)<=i+1:=pj λl p=>by rw[eF,oF,j Y,dU]
  omega
 .have:=yf d (gn f) i;rwa[HZ,Rx.c8<|X i]at this
def n8(d:U):G->U
 |0=>1
 |n+1=>n8 d n*d
def axz(k:du m) d:mP (gn d) m=n8 d (Z m-1):=by
 have x:=k.l5;have z:=k.l2;obtain⟨n,l⟩:∃n,n=Z m-1:=⟨_,J⟩;unfold mP;rw[<-l];have e:er (cz (cZ (gn d) m n) n)=er (λi f=>if i<n then(if f=i then d else 0)else if i=f then 1 else 0):=Ey λi f A g=>by
  rw[cz];by_cases h:i<n
  .rw[q h,q h,vb h];have s:=Zf k d (i:=i) Y;have p:lx (br (gn d) m i) f=(K d*X i) f:=by rw[s]
   rw[eF,oF,eG]at p;rw[p];by_cases g:f=i
   .rw[q g,q g,lF]
   .rw[j g,j g,dU]
  .rw[j h,j h]
 rw[e];have v:n=1\/n=2\/n=3\/n=4:=Y;clear l;rcases v with rfl|rfl|rfl|rfl<;>simp[er,ns,kH,jg,n8]<;>grind
def Zg(d:El m a)(f:El m b):El m (kZ a b):=by refine⟨jF _,tm (wP _) ?_⟩;rw[c7,qR];have:=d.2;have:=f.2;omega
def aka(d:du m)(f:El m a)(g:El m b) i:lx (br (kZ a b) m i)=lx (br a m i)+lx (br b m i):=by
 have l:=z9 d f i;have p:=z9 d g i;refine EA d (z9 d (Zg f g) i) ?_ ?_
 .have:=xO (lx<|br a m i)<|lx<|br b m i;omega
 .have k:=yf d (kZ a b) i;rw[Lv,Rx.fE]at k;exact mH k<|oE<|Ha (yf d a i)<|yf d b i
def Zh(f:El m a) d:El m (fw d a):=⟨jF _,tm (RP d a) f.2⟩
def akb(f:du m) d(g:El m a) i:lx (br (fw d a) m i)=K d*lx (br a m i):=by
 have p:=z9 f g i;refine EA f (z9 f (Zh g d) i) ?_ ?_
 .have:=R8 d<|lx<|br a m i;omega
 .have k:=yf f (fw d a) i;have l:=nk (kA (lx m)<|K d)<|yf f a i;rw[BI,(fF:X i*(K d*lx a)=K d*(X i*lx a))]at k;exact mH k<|oE l
end
def vS(a b:Rx)(n:G):Rx:=sX (λj=>K (b j)*pk a j) n
def R9{f g:G->Rx}(a:∀k,f k=g k) n:sX f n=sX g n:=by rw[funext a]
def akc(f g:G->Rx):∀n,sX (λk=>f k+g k) n=sX f n+sX g n
 |0=>(Rx.fq _).symm
 |n+1=>by show sX _ n+(f n+g n)=(sX f n+f n)+(sX g n+g n);rw[akc f g n];ac_rfl
def akd(f:G->Rx) a n:a*sX f n=sX (λk=>a*f k) n:=by rw[Rx.c8,Ze];exact R9 (λk=>Rx.c8 _ _) n
def ake(f:G->Rx):∀n,sX f (n+1)=f 0+sX (λk=>f<|k+1) n
 |0=>by show(0:Rx)+f 0=f 0+0;rw[Rx.im,Rx.fq]
 |n+1=>by show sX f (n+1)+f (n+1)=f 0+(sX (λk=>f<|k+1) n+f (n+1));rw[ake f n,Rx.jR]
def akf(b a:Rx){n:G}(f:sz a<=n):∀d,vS b a (n+d)=vS b a n
 |0=>rfl
 |d+1=>by show vS b a (n+d)+K (a<|n+d)*pk b (n+d)=_;rw[akf b a f d,jT Y,kV,Rx.dw,Rx.fq]
def vA(b a:Rx):Rx:=vS b a<|sz a
def EB α{G}{n}(a:sz G<=n):vA α G=vS α G n:=by have:=akf α G (aN<|sz G)<|n-sz G;rw[(Y:sz G+(n-sz G)=n)]at this;exact this.symm
def axA α a H n:vS α (a+H) n=vS α a n+vS α H n:=by unfold vS;rw[<-akc];exact R9 (λk=>by rw[dP,wq,Rx.gh]) n
def axB α a b n:vS α (K b*a) n=K b*vS α a n:=by unfold vS;rw[akd];exact R9 (λk=>by rw[eF,dL,Rx.c9]) n
def axC α a n:vS α (X 1*a) (n+1)=α*vS α a n:=by
 unfold vS;rw[ake,akd];have e:K ((X 1*a) 0)*pk α 0=0:=by rw[kU,j o,kV,Rx.dw]
 rw[e,Rx.im];exact R9 (λk=>by rw[kU,q Y,eD,pk];ac_rfl) n
def tS α a H:vA α (a+H)=vA α a+vA α H:=by have h:=xO a H;rw[EB α (n:=max (sz a)<|sz H) h,EB α (G:=a) (n:=max (sz a)<|sz H) Y,EB α (G:=H) (n:=max (sz a)<|sz H) Y,axA]
def Sa α a b:vA α (K b*a)=K b*vA α a:=by rw[EB α (n:=sz a) (R8 b a),axB];rfl
def Aa α a:vA α (X 1*a)=α*vA α a:=by
 have h:sz (X 1*a)<=sz a+1:=pj λi b=>by
  rw[kU];split
  .exact jT Y
  .rfl
 rw[EB α h,axC];rfl
def B3 α:vA α 0=0:=by rw[EB α (n:=0) (by rw[je];exact aN _)];rfl
def rk α a:vA α (K a)=K a:=by rw[EB α (Hb a)];show 0+K (K a 0)*1=_;rw[Rx.im,Rx.fv,kz,q J]
def akg(a H:Rx):∀l:E U,vA a (lx l*H)=vA a (lx l)*vA a H
 |[]=>by rw[mI,Rx.dw,B3,Rx.dw]
 |b::l=>by rw[zo,Rx.gh,tS,tS,Sa,rk,Rx.c9,Aa,Aa,akg a H l,Rx.gh,Rx.c9]
def EC α a H:vA α (a*H)=vA α a*vA α H:=by obtain⟨l,_,rfl⟩:=jS a;exact akg α H l
def H3 α a H:vA α (a-H)=vA α a-vA α H:=by
 have:a-H=a+K (-1)*H:=by rw[Bq,jE,Rx.neg_mul,Rx.cY,eY]
 rw[this,tS,Sa,Bq,jE,Rx.neg_mul,Rx.cY,eY]
def akh(a:Rx):∀n,vA a (X n)=pk a n
 |0=>by rw[Wu,<-jE,rk];rfl
 |n+1=>by rw[(Y:n+1=1+n),DB,Aa,akh a n,IK,pk,Rx.c8]
structure yg(m a:E U)(b:E mq):Prop where
 ok:∀d,(h:d<b.length)->b[d].2.1≠[]/\bM b[d].2.1/\b[d].2.1.length=b[d].1/\b[d].2.1.length<m.length/\bM b[d].2.2/\b[d].2.2.length=d+1/\b[d].2.2.getD d 0=1/\lx m∣lx b[d].2.1-vA (lx a) (lx b[d].2.2)
 uL:∀i d,(f:i<b.length)->(g:d<b.length)->b[i].1=b[d].1->i=d
section
variable{m a:E U}
def aki{b:E mq}(x:yg m a b):∀(f:G)(g d:E U),bM g->Z g<Z m->bM d->Z d=Z b+1->I d (Z b) 0=1->lx m∣lx g-vA (lx a) (lx d)->
  bM (gX b f g d).1/\(gX b f g d).1.length<Z m/\bM (gX b f g d).2/\(gX b f g d).2.length=Z b+1/\(gX b f g d).2.getD (Z b) 0=1/\lx m∣lx (gX b f g d).1-vA (lx a) (lx (gX b f g d).2)
 |0,g,d,p,h2,s,t,l,n=>⟨p,h2,s,t,l,n⟩
 |f+1,g,d,p,h2,s,t,l,n=>by
  by_cases z:g=[]
  .subst z;rw[RY];exact⟨p,h2,s,t,l,n⟩
  .cases u:n6 b (Z g)with
   |none=>rw[L1 _ _ u];exact⟨p,h2,s,t,l,n⟩
   |some i=>
    rw[RZ d z u]
    obtain⟨N,P,Q⟩:=CB<|L0 u
    let ⟨r1,A,B,C,D,H,W,v⟩:=x.ok N P
    rw[Q]at r1 A B C D H v
    simp only at r1 A B C D H v
    generalize n7 g i.1=c
    have X:=ajI g<|fw c i.1
    have h:=RP c i.1
    have k:I (gW d<|fw c i.2) (Z b) 0=1:=by rw[BJ,wO,l,gk i.2 Y,dU];decide+kernel
    have T:Z (gW d<|fw c i.2)=Z b+1:=by have q:=ajI d<|fw c i.2;have r:=RP c i.2;refine RA Y<|PU λw=>?_;rw[gk _ Y]at k;exact aJ k o
    refine aki x f _ _ (jF _) Y (jF _) T k ?_
    rw[LA,LA,BI,BI,H3,Sa]
    exact aw3 n<|nk (kA _<|K c) v
structure B4(m a f:E U)(k:G):Prop where
 can:bM f
 len:f.length=k+1
 top:f.getD k 0=1
 zero:lx m∣vA (lx a) (lx f)
 least:∀b:Rx,sz b<=k->lx m∣vA (lx a) b->b=0
def sy(f:G->U)(b:E mq):G->Rx
 |0=>0
 |d+1=>sy f b d+K (f d)*lx (I b d (0,[],[])).2.1
def Ab{rows:E mq}{j}(b:j<Z rows):I rows j (0,[],[])=rows[j]:=by rw[aO,cT b];rfl
def axD{b}(D:yg m a b)(g:G->U):∀n,n<=Z b->sy g b n=0->∀d,d<n->g d=0:=by
 intro n O r;refine eR λH=>?_
 have H:∃d,d<n/\g d≠0:=eR λh=>H λd N=>eR λp=>h ⟨d,N,p⟩
 have w:∃d,d<n/\g d≠0/\∀i,i<n->g i≠0->(I b i (0,[],[])).2.1.length<=(I b d (0,[],[])).2.1.length:=by
  have u:∀f,(∃d,d<f/\d<n/\g d≠0)->∃d,d<n/\g d≠0/\∀i,i<f->i<n->g i≠0->(I b i (0,[],[])).2.1.length<=(I b d (0,[],[])).2.1.length:=by
   intro f;induction f with
   |zero=>rintro⟨d,h,_⟩;exact aJ h<|oT _
   |succ f P=>
    intro X
    by_cases hp:∃d,d<f/\d<n/\g d≠0
    .let ⟨d,t,s,v⟩:=P hp;by_cases p:f<n/\g f≠0/\(I b d (0,[],[])).2.1.length<(I b f (0,[],[])).2.1.length
     .refine⟨f,p.1,p.2.1,λi x k l=>?_⟩;by_cases e:i=f
      .rw[e];exact aN _
      .exact bZ (v i Y k l)<|Di p.2.2
     .refine⟨d,t,s,λi x k l=>?_⟩;by_cases e:i=f
      .subst e;exact yW λC=>p ⟨k,l,C⟩
      .exact v i Y k l
    .obtain⟨d,t,s,v⟩:=X;have:d=f:=eR λe=>hp ⟨d,Y,s,v⟩
     subst this;refine⟨d,s,v,λi x k l=>?_⟩;by_cases e:i=d
     .rw[e];exact aN _
     .exact aJ ⟨i,Y,k,l⟩ hp
  let ⟨d,t,s⟩:=H;let ⟨y,v,E,F⟩:=u n ⟨d,t,t,s⟩;exact⟨y,v,E,λi x p=>F i x x p⟩
 let ⟨d,N,Q,T⟩:=w;let ⟨r1,J,L,_⟩:=D.ok d Y;have A:=Ab (rows:=b) (j:=d) Y;have B:lx (I b d (0,[],[])).2.1 ((I b d (0,[],[])).2.1.length-1)≠0:=by rw[A];exact J.ne r1
 have u:∀f,f<=n->sy g b f ((I b d (0,[],[])).2.1.length-1)=if d<f then g d*lx (I b d (0,[],[])).2.1 ((I b d (0,[],[])).2.1.length-1)else 0:=by
  intro f;induction f with
  |zero=>intro _;rw[j (oT _)];rfl
  |succ f P=>
   intro X
   show(sy g b f+K (g f)*lx (I b f (0,[],[])).2.1) _=_
   rw[dP,eF,P Y]
   by_cases e:f=d
   .subst e;rw[j (Gi _),q<|dO _,tz]
   .have z:g f*lx (I b f (0,[],[])).2.1 ((I b d (0,[],[])).2.1.length-1)=0:=by
     by_cases p:g f=0
     .rw[p,ni]
     .have t:=T f Y p;have s:(I b f (0,[],[])).2.1.length≠(I b d (0,[],[])).2.1.length:=λC=>by have W:=Ab (rows:=b) (j:=f) Y;let ⟨_,_,M,_⟩:=D.ok f Y;rw[W,A,M,L]at C;exact e (D.uL f d Y Y C)
      rw[eG,gk _ Y,dU]
    rw[z,oC];by_cases o:d<f
    .rw[q o,q Y]
    .rw[j o,j Y]
 have t:=u n<|aN _;rw[r,q N,lD]at t;rcases zp.1 t.symm with s|s
 .exact Q s
 .exact B s
def akj{b:E mq}(f:yg m a b)(g:0<Z m)(d:G->U):∀n,n<=Z b->sz (sy d b n)<Z m
 |0,_=>by show sz (0:Rx)<_;rw[je];exact g
 |n+1,p=>by have s:=akj f g d n Y;have i:=xO (sy d b n)<|K (d n)*lx (I b n (0,[],[])).2.1;have k:=R8 (d n)<|lx (I b n (0,[],[])).2.1;let ⟨_,l,_,t,_⟩:=f.ok n Y;rw[Ab Y,eJ l]at k;rw[Ab Y]at i;show sz (sy d b n+K (d n)*lx (I b n (0,[],[])).2.1)<_;rw[Ab Y];omega
def akk{b:E mq}(t:yg m a b):∀(n:G)(d:Rx),n<=Z b->sz d<=n->∃f:G->U,lx m∣sy f b n-vA (lx a) d/\((∀g,g<n->f g=0)->d=0)
 |0,d,_,l=>⟨λ_=>0,by rw[Hc (by omega:sz d=0),B3];exact kA _ _,λ_=>Hc Y⟩
 |n+1,d,N,l=>by
  let ⟨_,_,_,_,P,Q,x,z⟩:=t.ok n Y;have B:sz (d-K (d n)*lx b[n].2.2)<=n:=pj λi T=>by
   rw[nS,eF];by_cases e:i=n
   .have p:lx b[n].2.2 i=1:=by rw[e];exact x
    rw[p,e,lF];grind
   .have p:lx b[n].2.2 i=0:=gk _ Y;rw[jT (A:=d) Y,p,dU];grind
  let ⟨f,c1,C⟩:=akk t n _ Y B;refine⟨λg=>if g=n then d n else f g,?_,λu=>?_⟩
  .have p:∀k,k<=n->sy (λg=>if g=n then d n else f g) b k=sy f b k:=by
    intro k;induction k with
    |zero=>intro _;rfl
    |succ k D=>
     intro W
     show sy _ b k+K (if k=n then d n else f k)*_=sy f b k+K (f k)*_
     rw[D Y,j Y]
   show lx m∣sy _ b n+K (if n=n then d n else f n)*lx (I b n (0,[],[])).2.1-_;rw[p n (aN _),q J,Ab Y];rw[H3,Sa]at c1;have H:=Ha c1<|nk (kA (lx m)<|K<|d n) z;rwa[Rx.lE]at H
  .have s:d n=0:=by have l:(if n=n then d n else f n)=0:=u n<|dO _;rwa[q J]at l
   have v:=C λg X=>by have l:(if g=n then d n else f g)=0:=u g Y;rwa[j Y]at l
   rw[s,kV,Rx.dw,Rx.sub_zero]at v;exact v
def yg.least(g:du m){b}(f:yg m a b) d(i:sz d<=Z b)(k:lx m∣vA (lx a) d):d=0:=by
 have l:0<Z m:=by have:=g.l2;omega
 let ⟨c,c1,n⟩:=akk f (Z b) d (aN _) i;have p:sy c b (Z b)=0:=uJ (ae4 c1 k) (by rw[eJ g.can];exact akj f l c _<|aN _);exact n<|axD f c _ (aN _) p
def yg.few(n:du m){b}(d:yg m a b):Z b<=Z m-1:=by
 have t:=n.l2;refine yW λp=>?_
 let ⟨i,j,u,f,g⟩:=K4 (Z m-1) (Z b) (λj=>(I b j (0,[],[])).1-1) p λj l=>by let ⟨r1,_,s,v,_⟩:=d.ok j l;have:=cR.2 r1;show(I b j (0,[],[])).1-1<_;rw[Ab l];omega
 have k:i<Z b:=Y;have g:(I b i (0,[],[])).1-1=(I b j (0,[],[])).1-1:=g;rw[Ab k,Ab f]at g;let ⟨r1,_,s,_⟩:=d.ok i k;let ⟨s1,_,x,_⟩:=d.ok j f;have z:=cR.2 r1;have A:=cR.2 s1;have:=d.uL i j k f Y;omega
def akm(s:du m):∀(f:G)(b:E mq)(pw d:E U),yg m a b->bM pw->pw.length<Z m->bM d->Z d=Z b+1->I d (Z b) 0=1->lx m∣lx pw-vA (lx a) (lx d)->Z m<=f+Z b->(b=[]->pw≠[])->∃k,k<=Z m-1/\1<=k/\B4 m a (B0 a m f b pw d) k
 |0,b,_,_,t,_,_,_,_,_,_,hf,_=>by have:=t.few s;have:=s.l2;omega
 |f+1,b,pw,d,t,S,h2,r,B,w,F,hf,ew=>by
  let ⟨i1,i2,i3,i4,i5,i6⟩:=aki t (Z m) pw d S h2 r B w F;have C:(gX b (Z m) pw d).1=[]\/n6 b (gX b (Z m) pw d).1.length=none:=by
   have D:∀(f:G)(e v:E U),Z e<f->((gX b f e v).1=[]\/n6 b (gX b f e v).1.length=none):=by
    intro f;induction f with
    |zero=>intro e v h;exact aJ h<|oT _
    |succ f V=>
     intro e v he
     by_cases H:e=[]
     .subst H;rw[RY];exact .inl J
     .cases n:n6 b (Z e)with
      |none=>rw[L1 _ _ n];exact .inr n
      |some y=>
       rw[RZ v H n]
       refine V _ _ ?_
       obtain⟨l,x,hy⟩:=CB<|L0 n
       let ⟨r1,K,N,_⟩:=t.ok l x
       rw[hy]at r1 K N
       simp only at r1 K N
       have hel:=cR.2 H
       have h0:I y.1 (Z e-1) 0≠0:=by rw[<-N];exact K.ne r1
       have:Z (gW e<|fw (n7 e y.1) y.1)<=Z e-1:=by
        refine Hy (jF _) λi L=>?_
        show I (gW e<|fw (n7 e y.1) y.1) i 0=0;rw[BJ,wO];by_cases c:i=Z e-1
        .rw[c,n7,tE,mG,nV _ h0,lF];grind
        .have u:I e i 0=0:=gk e Y;have e2:I y.1 i 0=0:=gk _ Y;rw[u,e2,dU];grind
       omega
   exact D (Z m) pw d h2
  rw[B0];by_cases hc:(gX b (Z m) pw d).1=[]
  .rw[q hc];refine⟨Z b,t.few s,?_,i3,i4,i5,?_,λHH hG hd=>t.least s HH hG hd⟩
   .refine pT λe=>?_
    have hr:b=[]:=gA e;subst hr;have:gX [] (Z m) pw d=(pw,d):=L1 _ _ J;rw[this]at hc;exact ew J hc
   .rw[hc,mI]at i6;have:=oE i6;rwa[Rx.sub_zero]at this
  .rw[j hc];have P:=C.resolve_left hc;generalize (gX b (Z m) pw d).1=u at*;generalize (gX b (Z m) pw d).2=M at*;have R':yg m a (b++[(Z u,u,M)]):=by
    refine⟨λl x=>?_,λi l L x e=>?_⟩
    .rw[iL,oV]at x;by_cases g:l<Z b
     .rw[rz g];exact t.ok l g
     .have:l=Z b:=by omega
      subst this;rw[IB (aN _)];simp only[jA,Zi];exact⟨hc,i1,by first|rfl|trivial,i2,i3,i4,i5,i6⟩
    .rw[iL,oV]at L x;have z:=ajT P;by_cases p:i<Z b
     .by_cases g:l<Z b
      .rw[rz p,rz g]at e;exact t.uL i l p g e
      .have:l=Z b:=by omega
       subst this;rw[rz p,IB<|aN _]at e;simp only[jA,Zi]at e;exact aJ e<|z _<|sW p
     .have:i=Z b:=by omega
      subst this;by_cases g:l<Z b
      .rw[rz g,IB<|aN _]at e;simp only[jA,Zi]at e;exact aJ e.symm<|z _<|sW g
      .omega
   have Q:Z (b++[(Z u,u,M)])=Z b+1:=by rw[iL,oV]
   have T:d≠[]:=λe=>by rw[e]at B;cases B
   have W:=agX r HT.can T o;have A:lx (ml d [0,1])=X 1*lx d:=by rw[D8,RQ,Rx.c8]
   refine akm s f _ (fm pw a m) (ml d [0,1]) R' (wM<|BK _ _) (xZ s.ne) (BK _ _) (by rw[Q];simp at W;omega) ?_ ?_ (by rw[Q];omega) (λe=>by simp at e)
   .rw[Q,<-eG,A,kU,q Y,eD,eG,w]
   .rw[A,Aa];have h7:lx m∣lx (fm pw a m)-lx pw*lx a:=Es s.can s.ne;have O:=nk (kA (lx m)<|lx a) F;rw[Rx.c8 (lx a) (lx pw)]at O;exact mH h7 O
def axE(b:du m):∃k,k<=Z m-1/\1<=k/\B4 m a (R0 a m) k:=by have g:=b.l2;refine akm b (Z m+1) [] [1] [1] ⟨λj d=>aJ d<|oT _,λi j f=>aJ f<|oT _⟩ YW (by show 1<_;omega) YW J J ?_ (Y:Z m<=Z m+1+0) (λ_=>o);rw[awl,<-jE,rk];exact kA _ _
def B4.gI(t:du m){f}{k}(b:B4 m a f k)(x:1<=k):bw (lx f):=by
 have u:sz (lx f)=k+1:=by rw[eJ b.can,b.len]
 have d:lx f≠0:=Hw b.can λe=>by have:=b.len;rw[e]at this;cases this
 refine⟨Y,λA B e=>?_⟩;have g:A≠0:=λi=>d (by rw[e,i,Rx.dw])
 have l:B≠0:=λi=>d (by rw[e,i,Rx.g8])
 have n:=dV g l;rw[<-e,u]at n;have pA:=fe g;have z:=fe l;have s:=b.zero;rw[e,EC]at s;rcases t.gI.nW s with p|p
 .right;refine eR λv=>g<|b.least A Y p
 .left;refine eR λv=>l<|b.least B Y p
end
def hQ(a:U):E U->U
 |[]=>0
 |b::l=>b+a*hQ a l
def Sb(a:U):∀l:E U,vA (K a) (lx l)=K (hQ a l)
 |[]=>by rw[mI,B3,hQ,kV]
 |b::l=>by rw[zo,tS,rk,Aa,Sb a l,hQ,wq,dL]
def akn:∀(s:G)(P:Rx),sz P<=s->(∀f:G,f<s->vA (K ((f:V):U)) P=0)->P=0
 |0,P,B,_=>Hc Y
 |s+1,P,B,v=>by
  obtain⟨d,x⟩:∃d,d=X 1-K ((s:V):U):=⟨_,J⟩;have g:∀i,d i=(if i=1 then 1 else 0)-(if i=0 then((s:V):U)else 0):=λi=>by rw[x,nS,oF,kz]
  have a:sz d=2:=by refine RA (pj λi H=>by rw[g,j Y,j Y];decide+kernel) ?_;exact ae5 (n:=1) (by rw[g,q J,j o];decide+kernel)
  have k:d≠0:=λe=>by rw[e,je]at a;cases a
  let ⟨Q,R,l,N⟩:=PW P k;have z:∀p:U,vA (K p) d=K (p-((s:V):U)):=λp=>by have:X 1=X 1*1:=(Rx.fv _).symm;rw[x,H3,rk,akh,se,<-Wv]
  have A:R=K (R 0):=Rx.ext λi=>by
   rw[kz];by_cases c:i=0
   .rw[q c,c]
   .rw[j c];exact jT Y
  have t:R=0:=by have m:=v s<|dO _;rw[l,tS,EC,z,Rat.sub_self,kV,Rx.g8,Rx.im,A,rk]at m;rw[A];exact m
  rw[t,Rx.fq]at l;by_cases b:Q=0
  .rw[l,b,Rx.dw]
  have u:=dV b k;rw[<-l,a]at u;refine aJ (akn s Q Y λf T=>?_) b;have m:=v f Y;rw[l,EC,z]at m;refine eR λC=>oA C (tD λe=>?_) m
  have D:(((f:V)-(s:V):V):U)=0:=by rw[K0];exact e
  have:=W9.1 D;omega
def x2(a b f d:Rx):Rx:=a*d-b*f
def x3(a b m d k f g l i:Rx):Rx:=a*x2 k f l i-b*x2 d f g i+m*x2 d k g l
def x4(H:G->G->Rx):Rx:=H 0 0*x3 (H 1 1) (H 1 2) (H 1 3) (H 2 1) (H 2 2) (H 2 3) (H 3 1) (H 3 2) (H 3 3)-H 0 1*x3 (H 1 0) (H 1 2) (H 1 3) (H 2 0) (H 2 2) (H 2 3) (H 3 0) (H 3 2) (H 3 3)+H 0 2*x3 (H 1 0) (H 1 1) (H 1 3) (H 2 0) (H 2 1) (H 2 3) (H 3 0) (H 3 1) (H 3 3)-H 0 3*x3 (H 1 0) (H 1 1) (H 1 2) (H 2 0) (H 2 1) (H 2 2) (H 3 0) (H 3 1) (H 3 2)
def axF b{H:G->G->Rx}{B:Mx}(d:∀i a,i<4->a<4->vA (K b) (H i a)=K (B i a)):vA (K b) (x4 H)=K (er B):=by have e:∀i a,i<4->a<4->vA (K b) (H i a)=K (B i a):=d;simp only[x4,x3,x2,er,ns,kH,jg,tS,H3,EC,e _ _ (o:0<4) (o:0<4),e _ _ (o:0<4) (o:1<4),e _ _ (o:0<4) (o:2<4),e _ _ (o:0<4) (o:3<4),e _ _ (o:1<4) (o:0<4),e _ _ (o:1<4) (o:1<4),e _ _ (o:1<4) (o:2<4),e _ _ (o:1<4) (o:3<4),e _ _ (o:2<4) (o:0<4),e _ _ (o:2<4) (o:1<4),e _ _ (o:2<4) (o:2<4),e _ _ (o:2<4) (o:3<4),e _ _ (o:3<4) (o:0<4),e _ _ (o:3<4) (o:1<4),e _ _ (o:3<4) (o:2<4),e _ _ (o:3<4) (o:3<4),wq,Wv,dL]
def Ac(A:Mx):G->E U
 |1=>[-A 0 0,1]
 |2=>[jg (A 0 0) (A 0 1) (A 1 0) (A 1 1),-(A 0 0+A 1 1),1]
 |3=>[-kH (A 0 0) (A 0 1) (A 0 2) (A 1 0) (A 1 1) (A 1 2) (A 2 0) (A 2 1) (A 2 2),jg (A 0 0) (A 0 1) (A 1 0) (A 1 1)+jg (A 0 0) (A 0 2) (A 2 0) (A 2 2)+jg (A 1 1) (A 1 2) (A 2 1) (A 2 2),-(A 0 0+A 1 1+A 2 2),1]
 |_=>[er A,-(kH (A 0 0) (A 0 1) (A 0 2) (A 1 0) (A 1 1) (A 1 2) (A 2 0) (A 2 1) (A 2 2)+kH (A 0 0) (A 0 1) (A 0 3) (A 1 0) (A 1 1) (A 1 3) (A 3 0) (A 3 1) (A 3 3)+kH (A 0 0) (A 0 2) (A 0 3) (A 2 0) (A 2 2) (A 2 3) (A 3 0) (A 3 2) (A 3 3)+kH (A 1 1) (A 1 2) (A 1 3) (A 2 1) (A 2 2) (A 2 3) (A 3 1) (A 3 2) (A 3 3)),
   jg (A 0 0) (A 0 1) (A 1 0) (A 1 1)+jg (A 0 0) (A 0 2) (A 2 0) (A 2 2)+jg (A 0 0) (A 0 3) (A 3 0) (A 3 3)+jg (A 1 1) (A 1 2) (A 2 1) (A 2 2)+jg (A 1 1) (A 1 3) (A 3 1) (A 3 3)+jg (A 2 2) (A 2 3) (A 3 2) (A 3 3),-(A 0 0+A 1 1+A 2 2+A 3 3),1]
def Sd(A:Mx)(n:G)(a:U):Mx:=λi j=>if i<n then(if j=i then a else 0)-A i j else if i=j then 1 else 0
def axG(A:Mx){n}(b:1<=n)(d:n<=4) a:hQ a (Ac A n)=er (Sd A n a):=by
 have:n=1\/n=2\/n=3\/n=4:=Y;rcases this with rfl|rfl|rfl|rfl;all_goals
  simp[Ac,hQ,er,Sd,ns,kH,jg]
  grind
def ako(A:Mx){n}(a:1<=n)(b:n<=4):Z (Ac A n)=n+1/\I (Ac A n) n 0=1:=by have:n=1\/n=2\/n=3\/n=4:=Y;rcases this with rfl|rfl|rfl|rfl<;>exact⟨J,J⟩
section
variable{m a:E U}
def axH(f:du m)(k:El m a) b:er (Sd (cz (cZ a m<|Z m-1)<|Z m-1) (Z m-1) b)=mP (gW (gn b) a) m:=by
 refine Ey λi g t d=>?_
 unfold Sd;by_cases h:i<Z m-1
 .rw[q h,cz,q h,cz,q h,vb h,vb h];have n:lx (br (gW (gn b) a) m i)=lx (br (gn b) m i)+lx (br (fw ((-1:V):U) a) m i):=aka f (H2 f b) (Zh k _) i;have p:=akb f ((-1:V):U) k i;have s:=Zf f b h;have l:lx (br (gW (gn b) a) m i) g=(K b*X i+K ((-1:V):U)*lx (br a m i)) g:=by rw[n,p,s]
  rw[dP,eF,eF,oF,eG,eG]at l;rw[l];by_cases d:g=i
  .rw[q d,q d,lF,show(((-1:V)):U)= -1 from J];grind
  .rw[j d,j d,dU,show(((-1:V)):U)= -1 from J];grind
 .rw[j h,cz,j h]
def hE(a m:E U)(b:U):E U->E U
 |[]=>[]
 |_::l=>kZ (gn<|hQ b l)<|fm (hE a m b l) a m
def Se(b:du m)(d:U):∀l:E U,El m (hE a m d l)
 |[]=>⟨wC,by have:=b.l2;show 0<_;omega⟩
 |_::_=>Zg (H2 b _)<|R7 b _ _
def akp(d:du m)(b:U):∀l:E U,lx m∣(K (hQ b l)-vA (lx a) (lx l))-(K b-lx a)*lx (hE a m b l)
 |[]=>by rw[hE,hQ,mI,B3,kV,Rx.g8,Rx.sub_self];exact kA _ _
 |f::l=>by
  have k:=akp d b l;have n:lx m∣lx (fm (hE a m b l) a m)-lx (hE a m b l)*lx a:=Es d.can d.ne;rw[hE,hQ,zo,tS,rk,Aa,Lv,HZ,wq,dL];generalize lx (hE a m b l)=h at*;generalize vA (lx a) (lx l)=v at*;generalize lx (fm (hE a m b l) a m)=g at*;generalize lx a=α at*;generalize K (hQ b l)=w at*;have p:=eW k α;have s:=eW n<|K b-α;have e:(K f+K b*w-(K f+α*v))-(K b-α)*(w+g)=α*(w-v-(K b-α)*h)-(K b-α)*(g-h*α):=by
   simp only[Rx.mul_sub,Rx.qT,Rx.fE];rw[(fF:α*(K b*h)=K b*(h*α)),(fF:α*(α*h)=α*(h*α))];refine Rx.ext λi=>?_
   simp only[nS,dP];grind
  rw[e];exact dvd_sub p s
def hP(A:Mx):E U->G->G->Rx
 |[],_,_=>0
 |_::l,i,b=>(if i=b then lx l else 0)+(hP A l i 0*K (A 0 b)+hP A l i 1*K (A 1 b)+hP A l i 2*K (A 2 b)+hP A l i 3*K (A 3 b))
def akq(d:du m)(n:El m a)(b:U){i:G}(p:i<Z m-1):∀(l:E U)(f:G),f<4->vA (K b) (hP (cz (cZ a m<|Z m-1)<|Z m-1) l i f)=K (lx (br (hE a m b l) m i) f)
 |[],f,_=>by
  have:lx (br (hE a m b []) m i)=0:=by have s:=akb d 0 (Se (a:=a) d b []) i;have e:fw 0 (hE a m b [])=hE a m b []:=sf (jF _) wC (by rw[BI,hE,mI,Rx.g8]);rw[e,kV,Rx.dw]at s;exact s
  rw[hP,B3,this,lD,kV]
 |c::l,f,B=>by
  have u:=akq d n b p l;have C:=d.l5;have g:∀k,k<4->vA (K b) (hP (cz (cZ a m<|Z m-1)<|Z m-1) l i k*K (cz (cZ a m<|Z m-1) (Z m-1) k f))=K (I (br (hE a m b l) m i) k 0*(lx (br a m k) f)):=λk v=>by
   rw[EC,rk,u k v,<-dL,eG<|br (hE a m b l) m i];by_cases c:k<Z m-1
   .rw[cz,q c,vb c];rfl
   .have:I (br (hE a m b l) m i) k 0=0:=gk _ (by have:=(Ma d (Se (a:=a) d b l) i).2;omega);rw[this,ni,ni]
  have x:lx (br (hE a m b<|c::l) m i)=lx (br (gn<|hQ b l) m i)+lx (br (fm (hE a m b l) a m) m i):=aka d (H2 d _) (R7 d _ _) i;have z:=aj9 d (Se (a:=a) d b l) n i;have A:=Zf d (hQ b l) p;have t:lx (br (hE a m b<|c::l) m i) f=(K (hQ b l)*X i+sX (λk=>K (I (br (hE a m b l) m i) k 0)*lx (br a m k)) 4) f:=by rw[x,z,A]
  rw[dP,aj8,eF,oF,eF,eF,eF,eF]at t;rw[hP,tS,tS,tS,tS,g 0 o,g 1 o,g 2 o,g 3 o,t];simp only[wq];congr 1;by_cases c:i=f
  .rw[q c,q c.symm,lF,Sb]
  .rw[j c,j<|λh=>c h.symm,dU,B3,kV]
def lv(a m:E U):E U:=Ac (cz (cZ a m<|Z m-1)<|Z m-1)<|Z m-1
def akr(b:U):∀n,K (n8 b n)=pk (K b) n
 |0=>jE
 |n+1=>by rw[n8,dL,akr b n,pk]
def aks(b d:Rx):∀n,vA b (pk d n)=pk (vA b d) n
 |0=>by show vA b 1=1;rw[<-jE,rk]
 |n+1=>by rw[pk,EC,aks b d n,pk]
def PF(d:du m)(k:El m a){f}(p:lx m∣vA (lx a) (lx f)):lx (lv a m)∣pk (lx f) (Z m-1):=by
 have P:=d.l2;have Q:=d.l5;obtain⟨A,s⟩:∃A,A=cz (cZ a m<|Z m-1) (Z m-1):=⟨_,J⟩;obtain⟨D,t⟩:∃D,D=x4 (λi g=>if i<Z m-1 then hP A f i g else if i=g then 1 else 0):=⟨_,J⟩;have l:∀b:U,vA (K b) (lx (lv a m)*D-pk (lx f) (Z m-1))=0:=λb=>by
  have u:vA (K b) D=K (mP (hE a m b f) m):=by
   rw[t];refine axF b λi g T v=>?_
   by_cases c:i<Z m-1
   .rw[q c,s,akq d k b c f g v,cz,q c,vb c];rfl
   .rw[j c,cz,j c];by_cases e:i=g
    .rw[q e,q e,<-jE,rk]
    .rw[j e,j e,B3,kV]
  have x:vA (K b) (lx<|lv a m)=K (mP (gW (gn b) a) m):=by rw[Sb,lv,axG _ Y Y,axH d k]
  have z:mP (gW (gn b) a) m*mP (hE a m b f) m=n8 (hQ b f) (Z m-1):=by
   have B:El m (gW (gn b) a):=Zg (H2 d b)<|Zh k _;have C:fm (gW (gn b) a) (hE a m b f) m=gn (hQ b f):=by
    refine as5 (BK _ _) (jF _) d.can d.ne (H2 d _).2 ?_;rw[D8,LA,HZ,HZ];have H:=akp (a:=a) d b f;have n:=iI H p;have e:K (hQ b f)-vA (lx a) (lx f)-(K b-lx a)*lx (hE a m b f)+vA (lx a) (lx f)=K (hQ b f)-(K b-lx a)*lx (hE a m b f):=Rx.ext λi=>by simp only[nS,dP];grind
    rw[e]at n;exact oE n
   rw[<-axy d B (Se d b f),C,axz d]
  rw[H3,EC,u,x,aks,Sb,<-akr,<-dL,z,Rx.sub_self]
 have N:=akn _ _ (aN _) λg _=>l ((g:V):U)
 refine⟨D,?_⟩;rw[Rx.c8];exact(Bo N).symm
end
def Sf{a:Rx}(b:bw a)(g:Mo a):∀(n:G)(C:Rx),Mo C->C∣pk a n->∃k,k<=n/\C=pk a k
 |0,C,d,f=>⟨0,aN _,d.unit<|dvd_one f⟩
 |n+1,C,d,f=>by
  by_cases u:a∣C
  .obtain⟨i,l⟩:=u;have m:Mo i:=Mo.zu (l▸d) g;have p:i∣pk a n:=by obtain⟨w,v⟩:=f;refine⟨w,zq b.ne ?_⟩;rw[show pk a n*a=pk a (n+1)from J,v,l,Rx.c9]
   let ⟨k,x,s⟩:=Sf b g n i m p;exact⟨k+1,Y,by rw[l,s];rfl⟩
  .have t:Co a C:=(b.or C).resolve_left u;have p:C∣a*pk a n:=by rw[Rx.c8];exact f
   let ⟨k,x,s⟩:=Sf b g n C d<|t.symm.dvd p;exact⟨k,Y,s⟩
def akt{m a}(b:du m):Z (lv a m)=Z m/\I (lv a m) (Z m-1) 0=1:=by have g:=b.l2;have i:=b.l5;obtain⟨n,d⟩:∃n,Z m=n+1:=⟨Z m-1,Y⟩;have f:=ako (cz (cZ a m n) n) (n:=n) Y Y;unfold lv;rw[d,eD];exact f
def axI{m a f}{d}(g:du m)(n:El m a)(b:B4 m a f (d+1)):∃k,lx (lv a m)=pk (lx f) (k+1):=by
 have u:=g.l2;let ⟨c1,i⟩:=akt (a:=a) g;have p:Mo (lx f):=by rw[Mo,eJ b.can,b.len];exact b.top
 have s:bM (lv a m):= .inr (by rw[c1,i];decide);have l:=eJ s;have t:Mo (lx<|lv a m):=by rw[Mo,l,c1];exact i
 let ⟨k,_,e⟩:=Sf (b.gI g Y) p _ _ t<|PF g n b.zero;cases k with
 |zero=>
  rw[e,show pk (lx f) 0=1 from J,pn]at l
  omega
 |succ k=>exact⟨k,e⟩
def axJ{A B}{p a}(f:sz A=p+2)(g:sz B=a+1)(k:Mo A)(l:Mo B):(A*B) (p+a)=A p+(if a=0 then 0 else B (a-1)):=by
 have m:=k.at f;have n:=l.at g;obtain⟨b,d⟩:∃b,b=A-X (p+1):=⟨_,J⟩;have s:A=b+X (p+1):=by rw[d,Rx.lE]
 have t:∀i,p<i->b i=0:=λi u=>by
  rw[d,nS,oF];by_cases e:i=p+1
  .rw[q e,e,m];decide+kernel
  .rw[j e,jT (A:=A) Y];decide+kernel
 have v:(b*B) (p+a)=b p*B a:=Rx.Bm t<|λi u=>jT Y;have x:b p=A p:=by rw[d,nS,oF,j Y];grind
 have z:(A*B) (p+a)=(b*B) (p+a)+(X (p+1)*B) (p+a):=by rw[s,Rx.gh,dP]
 rw[z,v,n,lF,x,kU];by_cases e:a=0
 .rw[q e];first|rw[j Y]|rw[q Y]
 .rw[j e,(Y:a-1=p+a-(p+1))];first|rw[q (Y:p+1<=p+a)]|rw[j (Y:¬p+a<p+1)]
def aku{a:Rx}{d:G}(f:sz a=d+2)(b:Mo a):∀k,sz (pk a k)=k*(d+1)+1/\pk a k 0=n8 (a 0) k/\(1<=k->pk a k (k*(d+1)-1)=((k:V):U)*a d)
 |0=>⟨by rw[pM];exact pn,J,λi=>aJ i o⟩
 |k+1=>by
  let ⟨l,h2,m⟩:=aku f b k;have g:=b.pk k;have n:=dV g.ne b.ne;have p:sz (pk a<|k+1)=(k+1)*(d+1)+1:=by show sz (pk a k*a)=_;rw[fZ,hY];omega
  refine⟨p,?_,λ_=>?_⟩
  .show(pk a k*a) 0=_;have:(pk a k*a) 0=pk a k 0*a 0:=by rw[fV];show(0:U)+pk a k 0*a (0-0)=_;rw[tz]
   rw[this,h2,n8]
  .show(pk a k*a) ((k+1)*(d+1)-1)=_;have s:=axJ (A:=a) (B:=pk a k) f l b g;rw[Rx.c8,show(k+1)*(d+1)-1=d+k*(d+1)by rw[fZ,hY];omega,s,(Y:((k+1:G):V)=(k:V)+1),KZ];show _=(((k:V):U)+1)*a d;by_cases e:k=0
   .subst e;rw[pM,q J];show a d+0=(((0:V):U)+1)*a d;rw[D2];grind
   .have t:k*(d+1)≠0:=Nat.mul_ne_zero e<|Nat.succ_ne_zero d;rw[j t,m Y];grind
def axK{m a}(d:du m):Z (lv a m)=Z m/\I (lv a m) (Z m-1) 0=1/\I (lv a m) 0 0=(if(Z m-1)%2=1 then-mP a m else mP a m)/\I (lv a m) (Z m-2) 0= -ju a m (Z m-1):=by
 have p:=d.l2;have s:=d.l5;obtain⟨n,l⟩:∃n,Z m=n+1:=⟨Z m-1,Y⟩;have f:=ako (cz (cZ a m n) n) (n:=n) Y Y;have g:n=1\/n=2\/n=3\/n=4:=Y;unfold lv mP;rw[l,eD,(Y:n+1-2=n-1)];refine⟨f.1,f.2,?_,?_⟩
 .rcases g with rfl|rfl|rfl|rfl
  .rw[q J];simp[Ac,er,cz,ns,kH,jg];try grind
  .rw[j o];simp[Ac,er,cz,ns,kH,jg];try grind
  .rw[q J];simp[Ac,er,cz,ns,kH,jg];try grind
  .rw[j o];rfl
 .have b:∀i,i<n->cz (cZ a m n) n i i=I (br a m i) i 0:=λi k=>by rw[cz,q k,vb k]
  rcases g with rfl|rfl|rfl|rfl
  .show-(cz (cZ a m 1) 1 0 0)= -(0+_);rw[b 0 o,tz]
  .show-(cz (cZ a m 2) 2 0 0+cz (cZ a m 2) 2 1 1)= -(0+_+_);rw[b 0 o,b 1 o,tz]
  .show-(cz (cZ a m 3) 3 0 0+cz (cZ a m 3) 3 1 1+cz (cZ a m 3) 3 2 2)= -(0+_+_+_);rw[b 0 o,b 1 o,b 2 o,tz]
  .show-(cz (cZ a m 4) 4 0 0+cz (cZ a m 4) 4 1 1+cz (cZ a m 4) 4 2 2+cz (cZ a m 4) 4 3 3)= -(0+_+_+_+_);rw[b 0 o,b 1 o,b 2 o,b 3 o,tz]
def axL{m a f}{d}(i:du m)(x:El m a)(g:B4 m a f (d+1)):∃k,1<=k/\Z m-1=k*(d+1)/\lx (lv a m)=pk (lx f) k/\mP a m=(if(Z m-1)%2=1 then-n8 (I f 0 0) k else n8 (I f 0 0) k)/\ju a m (Z m-1)= -(((k:V):U)*I f d 0):=by
 have N:=i.l2;let ⟨c1,p,z,A⟩:=axK (a:=a) i;have B:=g.gI i Y;have s:sz (lx f)=d+2:=by rw[eJ g.can,g.len]
 have t:Mo (lx f):=by rw[Mo,s];exact g.top
 have u:bM (lv a m):= .inr (by rw[c1,p];decide);have C:Mo (lx<|lv a m):=by rw[Mo,eJ u,c1];exact p
 let ⟨k,_,e⟩:=Sf B t _ _ C<|PF i x g.zero;let ⟨p1,D,H⟩:=aku s t k;have l:Z m=k*(d+1)+1:=by rw[<-c1,<-eJ u,e,p1]
 have v:1<=k:=pT λK=>by rw[K]at l;omega
 refine⟨k,v,Y,e,?_,?_⟩
 .have b:I (lv a m) 0 0=n8 (I f 0 0) k:=by rw[<-eG,e,D];rfl
  rw[z]at b;split
  .rename_i n;rw[q n]at b;rw[<-b];grind
  .rename_i n;rw[j n]at b;exact b
 .have b:I (lv a m) (Z m-2) 0=((k:V):U)*I f d 0:=by rw[<-eG,e,(Y:Z m-2=k*(d+1)-1),H v];rfl
  rw[A]at b;rw[<-b];grind
def akv{N d:G}:∀(n:G)(a:E (E U))(v:U),Ew N n d a v->Ht (2^(N*(d*256))) (K<|NR n a v)
 |0,_,_,H=>H.hv
 |n+1,a,v,H=>by
  cases b:nr a (n+1) (n+1)with
  |none=>rw[Y6 b,kV];exact Ht.zero<|ko o
  |some k=>rw[Y7 b];exact akv n _ _<|H.step b
section
variable{m a:E U}{t:G}
def axM(d:du m)(k:Ez m t a)(n:t<=10000):Ew (Z m-1) (Z m-1) (t+101) (cZ a m<|Z m-1) 1/\u6 (Z m-1) (Z m-1) (t+100) (cZ a m<|Z m-1):=by
 have p:=d.l5;have s:=d.l2;have f:=Eu d k Y;have b:Z (cZ a m<|Z m-1)=Z m-1:=by rw[cZ,c7,qR]
 have g:u6 (Z m-1) (Z m-1) (t+100) (cZ a m<|Z m-1):=by
  refine⟨b,λi=>?_,λi l=>?_⟩
  .by_cases h:i<Z m-1
   .rw[vb h];exact(f i Y).1.le (aN _) Y
   .rw[aO,jB Y];exact Pz.nil _ _
  .rw[vb l];have:=(f i Y).2;omega
 exact⟨⟨aN _,Y,⟨t+100,by rw[jA,pW,qG];omega,g⟩,by rw[jA,pM];exact Ht.one o⟩,g⟩
def axN(b:du m)(d:Ez m t a)(f:t<=10000):aq r 22 [S .q a,S .q m] (aQ<|mP a m)/\QS 1000000 (mP a m):=by have l:=b.l5;let ⟨k,h2⟩:=axM b d f;have e:=aj5 Y _ _ _ 1 (aN _) h2;rw[ph]at e;have g:=axl b d f;have i:=akv _ _ _ k;rw[e]at g i;refine⟨g,i.z4 ?_⟩;have:=jQ (Y:Z m-1<=4)<|eB 256 (Y:t+101<=10101);omega
def axO(b:du m)(d:Ez m t a)(k:t<=10000):aq r 24 [S .q a,S .q m] (aQ<|ju a m<|Z m-1)/\QS 100000 (ju a m<|Z m-1):=by have l:=b.l5;have h:=Y5 (s:=1000) (λi f=>(Eu b d Y i f).1.qs Y i) (Z m-1) Y;have g:2^(Z m-1)<=16:=bZ (eU o (Y:Z m-1<=4)) o;exact⟨aw7 b d Y,h.le<|by have:=eB (1000+2) g;omega⟩
end
def Zj{a:U}{t:G}(b:Ht (2^t) (K a)):∀n,Ht (2^(n*t)) (K<|n8 a n)
 |0=>Ht.one<|ko o
 |n+1=>by have:=(Zj b n).Y9 b;rw[<-kv]at this;rw[n8,fZ,hY];exact this
def axP b(n:G){t}(f:Ht (2^t) (K b))(g:t<=10000)(l:n<=100):aq r 45 [aQ b,y n] (aQ<|n8 b n):=by
 refine aS Tryz.func45 ?_;refine e J<|w<|rc J J (y6 1 o o)<|O J ?_;refine nP ⟨[(4,.c<|.P 1000 0),(5,.c<|.P 1001000 0)],[(1000,.box 44 0 zR),(1001000,.box 44 0<|av .q<|n8 b n)],20,[]⟩ ?_<|λd=>?_
 .exact e J<|di J
 refine e J<|aA<|bx (α:=G) (λi=>⟨[(1,y n),(2,.c<|.P 0 0),(4,.c<|.P 1000 0),(5,.c<|.P 1001000 0),(6,y i)],[(0,.box 44 0<|av .q b),(1000,.box 44 0 zR),(1001000,.box 44 0<|av .q<|n8 b i)],3,[]⟩) (λi=>i<=n) (λi=>n-i) 0 (bm _) aY ?_;intro i m;have p:=jQ m g;have s:=eB 10000 l;refine h<|e J<|F J (λa=>?_)<|λa=>?_
 .have a:i<n:=by have a:(i:V)<(n:V):=aX a;omega
  have u:=Lt (k:=1000000) (n8 b i) b ((Zj f i).z4 Y) (f.z4 Y) o;exact aG<|h<|aA<|cL<|rc J J u<|O J<|bU<|rt J<|a6 (i+1) a QC aY
 .have a:i=n:=by have a:¬(i:V)<(n:V):=bh a;omega
  subst a;exact bD<|fp d aY
section
variable{m a:E U}
def axQ{n i}(b:i<n) d:cz (cZ a m n) n i d=I (br a m i) d 0:=by rw[cz,q b,vb b]
end
section
variable{m a:E U}
def axR(f:du m)(p:El m a){n}(z:Z m=n+1) i d:I (br a m<|i+1) d 0=(if d=0 then 0 else I (br a m i) (d-1) 0)-I (br a m i) (n-1) 0*I m d 0:=by
 have A:=f.l2;have B:=(Ma f p i).2;have k:I m n 0=1:=by have:=f.top;rwa[(Y:Z m-1=n)]at this
 have t:∀d,n<d->I m d 0=0:=λd s=>by rw[aO,jB Y];rfl
 have u:∀d,n<=d->I (br a m i) d 0=0:=λd s=>by rw[aO,jB Y];rfl
 have v:=Es (a:=br a m i) (b:=[0,1]) f.can f.ne;have l:=z9 f p<|i+1;have g:∀d,(X 1*lx (br a m i)-K (I (br a m i) (n-1) 0)*lx m) d=(if d=0 then 0 else I (br a m i) (d-1) 0)-I (br a m i) (n-1) 0*I m d 0:=λd=>by
  rw[nS,kU,eF,eG,eG];by_cases e:d=0
  .rw[q e,j Y]
  .rw[j e,q Y]
 have e:lx (br a m<|i+1)=X 1*lx (br a m i)-K (I (br a m i) (n-1) 0)*lx m:=by
  refine EA f l ?_ ?_
  .refine tm (pj (n:=n) λd s=>?_) Y;rw[g,j Y];by_cases e:d=n
   .rw[e,k];grind
   .rw[t d Y,u (d-1) Y];grind
  .refine mH v ?_;rw[RQ];have x:lx (br a m i)*X 1-(X 1*lx (br a m i)-K (I (br a m i) (n-1) 0)*lx m)=K (I (br a m i) (n-1) 0)*lx m:=by rw[Rx.c8 (lx<|br a m i) (X 1)];exact Rx.ext λd=>by simp only[nS];grind
   rw[x];exact jd _ _
 rw[<-eG,e,g]
end
end Go.El
end
