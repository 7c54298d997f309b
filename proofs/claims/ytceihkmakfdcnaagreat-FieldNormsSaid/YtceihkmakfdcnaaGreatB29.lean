/- Contracts: monomials of the reference. Own work; no condition. -/
import Derived.Test.YtceihkmakfdcnaaGreatB15
import Derived.Test.YtceihkmakfdcnaaGreatBS9
import Derived.Test.YtceihkmakfdcnaaGreatB10
import Derived.Test.YtceihkmakfdcnaaGreatB6
import Derived.Test.YtceihkmakfdcnaaGreatB11
import Derived.Test.YtceihkmakfdcnaaGreatBS10
import Derived.Test.YtceihkmakfdcnaaGreatB13
set_option linter.all false
set_option maxHeartbeats 16000000
set_option maxRecDepth 100000
open Bool renaming false->ah,true->ae
open Go.El renaming rr->e,cS->S,K0->F,ij->U,re->z,dj->j,cI->O,rb->R
open Go.Proofs.Tryz renaming prog->c
open Int renaming natAbs->aA,toNat->af
open List renaming length->Z,getD->I
open Option renaming some->ad
open _root_ renaming List->E,Rat->N,Nat->V,Int->Y
namespace Go.El
open Go Go.Proofs Rx
def Ez(m:E N)(t:V)(a:E N):Prop:=Pz 4 t a/\Z a<Z m
def P3{t}{x}(h:Pz 4 t x):Pz 12 t x:=h.le D<|aT _
def Ez.le{m}{t u}{a}(h:Ez m t a)(k:t<=u):Ez m u a:=⟨h.1.le (aT _) k,h.2⟩
def Ez.mul{m a b}{t u}(g:e9 m)(d:Ez m t a)(f:Ez m u b)(h:t+u+200<3200000000000):Ez m (t+u+28) (fm a b m):=by let ⟨i,h2,_,_⟩:=ahc g (P3 d.1) (P3 f.1) d.2 f.2 h;exact⟨i,h2⟩
def Ez.add{m a b}{t u}(d:Ez m t a)(f:Ez m u b):Ez m (t+u+1) (kD a b):=by refine⟨(d.1.add f.1).le D<|aT _,wg (An _) ?_⟩;rw[cT,rV];have:=d.2;have:=f.2;omega
def aul{z}{a}(h:aA z<=2^a):Ht (2^a) (K (z:N)):=⟨1,D,Ws,λi=>by
 rw[lE];split
 .exact⟨z,h,by rw[show(((1:Y)):N)=1 from J,qL]⟩
 .exact⟨0,bf _,dY _⟩⟩
abbrev LQ:ET:= .sl .q
def Gj(a m i:E N):Prop:=bU i/\Z i<Z m/\lx m∣lx i*lx a-1
noncomputable def vo(a m:E N):E N:=Classical.epsilon<|Gj a m
section
variable{m a i:E N}{t:V}
def aum(b:e9 m)(h:Gj a m i):i=vo a m:=by
 have k:Gj a m (vo a m):=Classical.epsilon_spec (p:=Gj a m) ⟨i,h⟩;refine aeM h.1 k.1 b.can b.ne h.2.1 k.2.1 ?_;have e:=dvd_sub (dQ h.2.2<|lx<|vo a m)<|dQ k.2.2<|lx i;have d:lx (vo a m)*(lx i*lx a-1)-lx i*(lx (vo a m)*lx a-1)=lx i-lx (vo a m):=by
  rw[Rx.mul_sub,Rx.mul_sub,Rx.mul_one,Rx.mul_one,(fq:lx (vo a m)*(lx i*lx a)=lx i*(lx (vo a m)*lx a))];refine Rx.ext λj=>?_
  simp only[uO];grind
 rwa[d]at e
def aun{n t}(h:n<=3):(2*((2*n+2)*2^t))^(2*n+1)<=2^(7*t+28):=by
 have b:2*((2*n+2)*2^t)<=2^(t+4):=by rw[ku,<-wh,hJ<|2^t];exact et _ G
 refine b6 (z7 b _) ?_;rw[<-Cj];refine eZ D ?_;have:=jk (t+4) (G:2*n+1<=7);omega
def auo(g:e9 m)(P:Ez m t a)(a0:a≠[])(ht:7<=t):∃i,Gj a m i/\Ht (2^(8*t+28)) (lx i):=by
 let ⟨r,m1,m2,y⟩:=g.ht;let ⟨f,a1,a2,E⟩:=P.1.ht;obtain⟨n,hn⟩:∃n,Z m=n+2:=⟨Z m-2,by have:=g.l2;omega⟩;have hl5:=g.l5;have Q:=P.2;obtain⟨F,p⟩:∃F,F=K (r:N)*lx m:=⟨_,J⟩;obtain⟨b,s⟩:∃b,b=K (f:N)*lx a:=⟨_,J⟩;have I:c9 F:=c9.of λi=>by let ⟨z,_,h⟩:=y i;exact⟨z,by rw[p,dZ];exact h⟩
 have M:c9 b:=c9.of λi=>by let ⟨z,_,h⟩:=E i;exact⟨z,by rw[s,dZ];exact h⟩
 have bF:∀i,aA (nu F i)<=2^t:=λi=>by
  let ⟨z,T,h⟩:=y i;have e:nu F i=z:=by show(F i).num=z;rw[p,dZ,h];rfl
  rw[e];exact b6 T<|eZ D ht
 have bG:∀i,aA (nu b i)<=2^t:=λi=>by
  let ⟨z,T,h⟩:=E i;have e:nu b i=z:=by show(b i).num=z;rw[s,dZ,h];rfl
  rw[e];exact T
 have zF:∀i,n+1<i->nu F i=0:=λi l=>wF<|b6 (n7 (n:=i) λj W=>by rw[p,dZ,fj,g5 m G,dY])<|aT _
 have zG:∀i,n<i->nu b i=0:=λi l=>wF<|b6 (n7 (n:=i) λj W=>by rw[s,dZ,fj,g5 a G,dY])<|aT _
 let ⟨u,v,d,u1,v1,e,hD,fe,hv⟩:=adb Ws zF zG bF bG;obtain⟨U,X⟩:∃U,U=uY u u1:=⟨_,J⟩;obtain⟨V,L⟩:∃V,V=uY v v1:=⟨_,J⟩;have O:c9 U:=by rw[X];exact FT u u1
 have R:c9 V:=by rw[L];exact FT v v1
 have o:U*F+V*b=K (d:N):=by have S:=O.mul I;have i2:=R.mul M;refine adN (OH S i2).1 (c9.K d) ?_;rw[(OH S i2).2,Cy O I,Cy R M,X,L,Ac,Ac,e,aoG]
 have k:∀i,V i=((v i:Y):N):=λi=>by rw[L];rfl
 have av5:r≠0:=m1;have c:=atL g.can g.gH P.1.can a0 Q;have dF:lx m∣F:=by rw[p];exact dvd_mul_left _ _
 have w:d≠0:=λh0=>by
  subst h0;have o:U*F+V*b=0:=by rw[o];exact nj
  have d1:lx m∣V*b:=by refine wo ?_<|dQ dF U;rw[o];exact dvd_zero _
  have d2:lx m∣lx a*(K (f:N)*V):=by rw[s]at d1;rwa[(fq:V*(K (f:N)*lx a)=lx a*(K (f:N)*V))]at d1
  have d3:=c.dvd d2;have v0:K (f:N)*V=0:=s8 d3 (by have:=n7 (A:=K (f:N)*V) (n:=n+1) (λi l=>by rw[dZ,k,v1 i l];exact dY _);rw[fS g.can];omega);have x:V=0:=fc λhh=>nZ (s7<|Ao a1) hh v0
  rw[x,Rx.zero_mul,Rx.add_zero]at o;have B:F≠0:=by rw[p];exact nZ (s7<|Ao m1)<|CS g.can g.ne
  have u0:U=0:=fc λhu=>nZ hu B o
  refine fe J ?_ ?_
  .rw[<-Ac v v1,<-L,x];rfl
  .rw[<-Ac u u1,<-X,u0];rfl
 have C:(d:N)≠0:=Ao w;have hB:=aun (n:=n) (t:=t) G;let ⟨i,l,q⟩:=jq<|K ((f:N)*(d:N)⁻¹)*V;have H:Z i<Z m:=by rw[<-fS l,q];have:=n7 (A:=K ((f:N)*(d:N)⁻¹)*V) (n:=n+1) (λj W=>by rw[dZ,k,v1 j W];exact dY _);omega
 refine⟨i,⟨l,H,?_⟩,?_⟩
 .have e1:lx i*lx a=K (d:N)⁻¹ *(V*b):=by rw[q,s,fp];ac_rfl
  have e2:V*b=K (d:N)-U*F:=FG (by rw[Rx.add_comm];exact o);rw[e1,e2,Rx.mul_sub,ph C];refine n5 ?_;have e3:(1:Rx)-(1-K (d:N)⁻¹ *(U*F))=K (d:N)⁻¹ *(U*F):=Rx.ext λj=>by simp only[uO];grind
  rw[e3];exact dQ (dQ dF U) _
 .refine⟨d,w,b6 (b6 hD hB)<|eZ D G,λj=>⟨f*v j,?_,?_⟩⟩
  .have:=qW a2<|b6 (hv j) hB;rw[<-ku]at this;rwa[(G:t+(7*t+28)=8*t+28)]at this
  .rw[q,dZ,k,fT,<-l7,zS (d:N),l7 (f:N),nq _ C,nr]
def ahm(d:e9 m)(f:Ez m t a)(g:a≠[])(h:7<=t):Gj a m (vo a m)/\Ez m (8*t+28) (vo a m):=by let ⟨i,b,h2⟩:=auo d f g h;have e:=aum d b;subst e;have l:=d.l5;have k:=b.2.1;exact⟨b,⟨b.1,G,h2⟩,k⟩
end
def aup b a:Z (jd b a)<=Z a:=by refine b6 (An _) ?_;rw[cT,rV];exact aT _
section
variable{m a b:E N}{t:V}
def ahn(d:e9 m) t:Ez m t [1]:=⟨atJ 4 t D,by have:=d.l2;show 1<_;omega⟩
def aho(d:e9 m)(f:Ez m t a)(g:a≠[])(i:7<=t):fm a (vo a m) m=[1]:=by have h:=(ahm d f g i).1;refine aqC (JT _ _) WK d.can d.ne (ahn d 0).2 ?_;rw[F5,atI,Rx.mul_comm];exact h.2.2
end
def b9(a m:E N):V->E N
 |0=>a
 |i+1=>fm (b9 a m i) [0,1] m
def ahp:ao c 78 [O 1] (S .q [0,1]):=iE (l:=[]) A eL J J
def ahq:lx [(0:N),1]=X 1:=Rx.ext λi=>by
 match i with
 |0=>rfl
 |1=>rfl
 |i+2=>rw[rX,y G];rfl
def ahr:Pz 2 0 [(0:N),1]:=⟨.inr (D:(1:N)≠0),aT _,by
 rw[ahq];refine⟨1,D,D,λi=>?_⟩;rw[rX];split
 .exact⟨1,D,nr _⟩
 .exact⟨0,D,dY _⟩⟩
section
variable{m a:E N}{t:V}
def WR(b:e9 m)(f:Ez m t a)(k:t<=1000000000):Ez m (t+12) (fm a [0,1] m)/\ao c 19 [S .q a,S .q [0,1],S .q m] (S .q<|fm a [0,1] m):=by
 have l:=b.l2;have n:=b.l5;have o:=f.2;have h:Z a+[(0:N),1].length-1+1-Z m<=1:=by show Z a+2-1+1-Z m<=1;omega
 have i:=Pz.fm f.1 ahr b.pz b.ne (d:=1) D h;have g:(fm a [0,1] m).length<Z m:=Ak b.ne;exact⟨⟨⟨i.can,G,i.ht.le<|eZ D G⟩,g⟩,f.1.ag8 ahr b.pz b.ne (d:=1) (s:=100000000000) D D D h G D⟩
def wT(b:e9 m)(d:Ez m t a)(f:t<=100000000):∀i,i<=100->Ez m (t+12*i) (b9 a m i)
 |0,_=>d
 |i+1,h=>(WR b (wT b d f i G) G).1.le G
end
def ahs(a m:E N):CX c 69 [S .q a,S .q m] [] 3002000 (.c<|.X 3002002) [(3002001,.box 29 0 [.S .q m]),(3002000,.box 29 0 [.S .q a]),(3002002,.dI 122 [] [(ah,[.P 3002001 0]),(ah,[.P 3002000 0])])] 3002003:=by
 refine ap8 (λf=>if f=3002000 then 0 else if f=3002001 then 1000 else if f=3002002 then 1000000 else f) Tryz.func69 J J J J D (fm0:=[(1000000,.dI 122 [] [(ah,[.P 1000 0]),(ah,[.P 0 0])]),(1000,.box 29 0 [.S .q m]),(0,.box 29 0 [.S .q a])]) ?_ D ?_ ?_ ?_
 .exact e J<|R<|aqb J J J<|λk=>z J<|bV<|ap7 cv J
 .intro f h;have h:f∈[3002002]:=h;simp at h;omega
 .intro f b h;simp only[U]at h;split at h
  .rename_i g;subst g;cases h;exact⟨J,D,λj d=>by cases d⟩
  .split at h
   .rename_i g;subst g;cases h;exact⟨J,D,λj d=>by cases d⟩
   .split at h
    .rename_i g;subst g;cases h;exact⟨J,D,λj d=>by simp[aD.ak,eG,cp,C.ak]at d;omega⟩
    .cases h
 .intro f l h n g;have i:∀j,(U j [(3002001,aD.box 29 0 [.S .q m]),(3002000,aD.box 29 0 [.S .q a]),(3002002,.dI 122 [] [(ah,[.P 3002001 0]),(ah,[.P 3002000 0])])]).isSome=ae->j=3002001\/j=3002000\/j=3002002:=λj d=>by
   simp only[U]at d;split at d
   .omega
   .split at d
    .omega
    .split at d
     .omega
     .cases d
  rcases i f h with rfl|rfl|rfl<;>rcases i l n with rfl|rfl|rfl<;>first|rfl| (revert g;decide)
def WS{g:Gh}{a:C}:∀{cs:E (Bool×E C)}{b:E Value}{j:V},du g cs b->cs[j]? =ad (ah,[a])->∃w,b[j]? =ad w/\cN g a w
 |[],_,_,_,h=>by cases h
 |_::_,_,0,⟨v,_,rfl,d,_⟩,h=>by cases h;exact⟨v,J,d⟩
 |_::cs,_,j+1,⟨_,_,rfl,_,h2⟩,h=>WS (cs:=cs) (j:=j) h2 h
def P4{f}{i a}{k}(o:V)(l:f[o]? =ad (ah,[.P i a])) g m val(h:du g f k)(p:a8 g (.c<|.P i a) val)(s:du m f k):a8 m (.c<|.P i a) val:=by let ⟨w,t,u⟩:=WS h l;let ⟨x,n,h2⟩:=WS s l;rw[t]at n;cases n;obtain⟨b,v,rfl⟩:=p;obtain⟨B,d,rfl⟩:=u;rw[v]at d;cases d;exact h2
def Gk(a:nS)(k d:V)(l:E (V×AV)):E (V×AV)->Prop
 |[]=>True
 | (t,u)::f=>(U t l=ad u/\Nat.beq t d=ah/\(u.ak=[]\/(∀g b val,du g a.caps a.ws->a8 g u val->du b a.caps a.ws->a8 b u val)/\∀h∈u.ak,h<1000000*k))/\Gk a k d l f
def Gk.get{a:nS}{k d:V}{l:E (V×AV)}:∀{m:E (V×AV)},Gk a k d l m->∀t u,U t m=ad u->U t l=ad u/\t≠d/\(u.ak=[]\/(∀g f val,du g a.caps a.ws->a8 g u val->du f a.caps a.ws->a8 f u val)/\∀i∈u.ak,i<1000000*k)
 |[],_,_,_,h=>by simp[U]at h
 | (n,x)::m,hw,t,u,h=>by
  simp only[U]at h;split at h
  .rename_i b;subst b;cases h;exact⟨hw.1.1,λb=>(by have:=hw.1.2.1;rw[b,Bt]at this;cases this),hw.1.2.2⟩
  .exact Gk.get hw.2 t u h
abbrev Gn(a:nS):AV:= .c<|.V<|.func (.yield a.l) #[] #[]
def aht{m:nS}{bo}{d n}{Mo}{i}{f}(s:i= .normal\/i= .ret)(h:1<=f.nx)(o:f.mem=Mo):hP n i f (m.O<|nc bo d) (m.Q bo d Mo):=by intro F C u w g W a k p;have l:w=[]:=p.2.2.2.1;subst l;refine⟨s,⟨g,f.nx,h,?_⟩,p⟩;let ⟨sl,mem,nx,gd⟩:=f;simp only at o h;subst o;exact aJ.frame (F:=F.dr []) (n':=(F.dr []).n) (ds':=[]) (rd':=(F.dr []).rd) k k.size k.defers (λt v x=>by simp[U]at x)<|λH b B=>B
abbrev zR:E C:=[.B ah,.V<|.slice none 0 0,.B ah,.V<|.slice none 0 0]
abbrev yy:E (Bool×E C):=[(ah,[.P 3002001 0]),(ah,[.P 3002000 0])]
abbrev wU:E (V×C):=[(4,.P 1000000 0),(5,.P 2000000 0)]
abbrev yz:V×aD:=(0,.dI 0 [] (qx wU++yy))
abbrev mN(b m:E N)(l:E (E N)):E (V×aD):=[(3002001,.box 29 0 [.S .q m]),(3002000,.box 29 0 [.S .q b]),(4000000,.vec 29 LQ l),(2000000,.box 70 0 [.X 4000000]),(1000000,.box 44 0 zR)]
def dL(a m:E N)(i:V):E (E N):=(List.range i).map<|b9 a m
def auq{R:nS}(ok:R.Ok)(k:R.caps=qx wU++yy)(w:R.S0=lV wU){a m}{t n}(B:e9 m)(ha:Ez m t a)(ht:t<=100000000)(hn:Z m=n+1)
  (H:∀i,i<n->∃f:St,1<=f.nx/\qv f.mem=ae/\TJ c R.n0 R.dV ⟨(R.q,S .q<|b9 a m i)::(R.p,O i)::R.S0,yz::mN (b9 a m i) m (dL a m i),30,[]⟩ uC (λfW cz a W=>cz= .normal/\∃g,aJ (fW.dr []) (kb f) f.kn g W a)/\TJ c R.n0 R.bd f uC (Ik ae 1<|yz::mN (b9 a m i) m (dL a m<|i+1)))
 {cb}(L:Tryz.f122.body=ad cb):
  TJ c 21 cb ⟨[(0,Gn R),(1,.c<|.P 3002001 0),(2,.c<|.P 3002000 0)],yz::mN a m (dL a m 0),5,[]⟩ (R.O none) (R.Q ae 1<|yz::mN (b9 a m n) m (dL a m n)):=by
 obtain rfl:=He<|(rfl:Tryz.f122.body=ad _).symm.trans L
 have o:=R.Td none
 have N:=B.l5
 refine kr o J<|qu<|Ij (α:=V) (λi=>⟨[(0,Gn R),(1,.c<|.P 3002001 0),(2,.c<|.P 3002000 0),(7,O n),(8,O i)],yz::mN (b9 a m i) m (dL a m i),6,[]⟩) (λi=>i<=n) (λi=>n-i) 0 (bf _) (wk ⟨sR J,sR J,sR J,sE J ?_,sR J,A⟩<|ow J) ?_
 .exact bh O (G:(Z m:Y)-1=(n:Y))
 intro i U
 refine kr o J<|mF<|sV J (λh=>?_)<|λh=>?_
 .have h:i<n:=by have h:(i:Y)<(n:Y):=aW h;omega
  let ⟨f,K,T,hA,E⟩:=H i h;have s:=(WR B (wT B ha ht i G) G).2;refine uA<|lU<|mF<|qu<|kr o J<|mF ?_;refine mF<|aaZ (i:=3) (d:=14) (j:=11) (x:=12) (x2:=13) (v:=O i) (v2:=S .q<|b9 a m i) (M:=yz::mN (b9 a m i) m (dL a m i)) (Mo:=yz::mN (b9 a m i) m (dL a m<|i+1)) (xid:=1) (stB:=f) (nxr:=30) (bo:=ae) (slk:=[(0,Gn R),(1,.c<|.P 3002001 0),(2,.c<|.P 3002000 0),(7,O n),(8,O i)]) (gd1:=[]) ok J J J (.inl J) (O2 J<|.nil J) J J J J J D J (by rw[k];rfl) (by rw[k];rfl) (Gk.get ⟨⟨J,J,.inl J⟩,⟨J,J,.inr ⟨?_,?_⟩⟩,⟨J,J,.inr ⟨?_,?_⟩⟩,⟨J,J,.inl J⟩,⟨J,J,.inl J⟩,A⟩) J J J (DP (b:=8000000) J) (D:1<=8) (cP J) T (D:9<=30) K ?_ hA E (O2 J<|.nil J) ?_
  .intro g X val h r u;rw[k]at h u;exact P4 2 J g X val h r u
  .intro y a6;have:y=3002001:=P5;subst this;show 3002001<1000000*8;decide
  .intro g X val h r u;rw[k]at h u;exact P4 3 J g X val h r u
  .intro y a6;have:y=3002000:=P5;subst this;show 3002000<1000000*8;decide
  .rw[w];exact DO (b:=8000000) (l:=lV wU) J
  refine lU<|sV J (λI=>by cases I)<|λ_=>uA<|lU<|FX o<|rc J J ahp<|rc J J s<|z J<|uB<|lU<|kt o J<|EV (i+1) h OW<|wk (bM J) ⟨bR J,bR J,bE J J,bR J,bR J,bR J,A⟩
 .have h:i=n:=by have h:¬(i:Y)<(n:Y):=bc h;omega
  subst h;exact S7<|S9<|Tb<|Ta<|aht (bo:=ae) (.inl J) (D:1<=7) J
abbrev AB:E (V×C):=[(4,.P 1000000 0),(5,.P 2001000 0)]
abbrev wV:V×aD:=(0,.dI 0 [] (qx AB++yy))
abbrev mT(b m:E N)(s:N):E (V×aD):=[(3002001,.box 29 0 [.S .q m]),(3002000,.box 29 0 [.S .q b]),(2001000,.box 44 0<|av .q s),(1000000,.box 44 0 zR)]
def eF(a m:E N):V->N
 |0=>0
 |i+1=>eF a m i+I (b9 a m i) i 0
def aur{R:nS}(ok:R.Ok)(k:R.caps=qx AB++yy)(w:R.S0=lV AB){a m}{t n}(B:e9 m)(ha:Ez m t a)(ht:t<=100000000)(hn:Z m=n+1)
  (H:∀i,i<n->∃f:St,1<=f.nx/\qv f.mem=ae/\TJ c R.n0 R.dV ⟨(R.q,S .q<|b9 a m i)::(R.p,O i)::R.S0,wV::mT (b9 a m i) m (eF a m i),30,[]⟩ uC (λfW cz a W=>cz= .normal/\∃g,aJ (fW.dr []) (kb f) f.kn g W a)/\TJ c R.n0 R.bd f uC (Ik ae 1<|wV::mT (b9 a m i) m (eF a m<|i+1)))
 {cb}(L:Tryz.f122.body=ad cb):
  TJ c 21 cb ⟨[(0,Gn R),(1,.c<|.P 3002001 0),(2,.c<|.P 3002000 0)],wV::mT a m (eF a m 0),5,[]⟩ (R.O none) (R.Q ae 1<|wV::mT (b9 a m n) m (eF a m n)):=by
 obtain rfl:=He<|(rfl:Tryz.f122.body=ad _).symm.trans L
 have o:=R.Td none
 have N:=B.l5
 refine kr o J<|qu<|Ij (α:=V) (λi=>⟨[(0,Gn R),(1,.c<|.P 3002001 0),(2,.c<|.P 3002000 0),(7,O n),(8,O i)],wV::mT (b9 a m i) m (eF a m i),6,[]⟩) (λi=>i<=n) (λi=>n-i) 0 (bf _) (wk ⟨sR J,sR J,sR J,sE J ?_,sR J,A⟩<|ow J) ?_
 .exact bh O (G:(Z m:Y)-1=(n:Y))
 intro i U
 refine kr o J<|mF<|sV J (λh=>?_)<|λh=>?_
 .have h:i<n:=by have h:(i:Y)<(n:Y):=aW h;omega
  let ⟨f,K,T,hA,E⟩:=H i h;have s:=(WR B (wT B ha ht i G) G).2;refine uA<|lU<|mF<|qu<|kr o J<|mF ?_;refine mF<|aaZ (i:=3) (d:=14) (j:=11) (x:=12) (x2:=13) (v:=O i) (v2:=S .q<|b9 a m i) (M:=wV::mT (b9 a m i) m (eF a m i)) (Mo:=wV::mT (b9 a m i) m (eF a m<|i+1)) (xid:=1) (stB:=f) (nxr:=30) (bo:=ae) (slk:=[(0,Gn R),(1,.c<|.P 3002001 0),(2,.c<|.P 3002000 0),(7,O n),(8,O i)]) (gd1:=[]) ok J J J (.inl J) (O2 J<|.nil J) J J J J J D J (by rw[k];rfl) (by rw[k];rfl) (Gk.get ⟨⟨J,J,.inl J⟩,⟨J,J,.inr ⟨?_,?_⟩⟩,⟨J,J,.inr ⟨?_,?_⟩⟩,⟨J,J,.inl J⟩,⟨J,J,.inl J⟩,A⟩) J J J (DP (b:=8000000) J) (D:1<=8) (cP J) T (D:9<=30) K ?_ hA E (O2 J<|.nil J) ?_
  .intro g X val h r u;rw[k]at h u;exact P4 2 J g X val h r u
  .intro y a6;have:y=3002001:=P5;subst this;show 3002001<1000000*8;decide
  .intro g X val h r u;rw[k]at h u;exact P4 3 J g X val h r u
  .intro y a6;have:y=3002000:=P5;subst this;show 3002000<1000000*8;decide
  .rw[w];exact DO (b:=8000000) (l:=lV AB) J
  refine lU<|sV J (λI=>by cases I)<|λ_=>uA<|lU<|FX o<|rc J J ahp<|rc J J s<|z J<|uB<|lU<|kt o J<|EV (i+1) h OW<|wk (bM J) ⟨bR J,bR J,bE J J,bR J,bR J,A⟩
 .have h:i=n:=by have h:¬(i:Y)<(n:Y):=bc h;omega
  subst h;exact S7<|S9<|Tb<|Ta<|aht (bo:=ae) (.inl J) (D:1<=7) J
def P6{L:E (V×aD)}(a:((L.map Prod.fst).contains 0||(L.map λx=>x.2.ak.contains 0).contains ae)=ah):∀d b,U d L=ad b->d≠0/\0∉b.ak:=λd b h=>by
 have g:=v8 h;rw[Mj]at a;refine⟨λe=>?_,λe=>?_⟩
 .subst e;have:(L.map Prod.fst).contains 0=ae:=by rw[WT];exact PB (f:=Prod.fst) g
  rw[a.1]at this;cases this
 .have:(L.map λx=>x.2.ak.contains 0).contains ae=ae:=by rw[WT];exact kF.2 ⟨_,g,by rw[WT];exact e⟩
  rw[a.2]at this;cases this
def P7{a m:E N}:∀g b,U g [(3002001,aD.box 29 0 [.S .q m]),(3002000,aD.box 29 0 [.S .q a]),(3002002,.dI 122 [] [(ah,[.P 3002001 0]),(ah,[.P 3002000 0])])]=ad b->3002000<=g/\∀f∈b.ak,3002000<=f:=λg b h=>by
 have:=v8 h;simp only[bZ,bK,Ka,or_false]at this;rcases this with⟨rfl,rfl⟩|⟨rfl,rfl⟩|⟨rfl,rfl⟩
 .exact⟨D,λf d=>by cases d⟩
 .exact⟨D,λf d=>by cases d⟩
 .exact⟨D,λf d=>by simp[aD.ak,eG,cp,C.ak]at d;omega⟩
def WU{a m:E N}{s:V}(h:∀i,i<=100->QS s (I (b9 a m i) i 0)):∀i,i<=100->QS (2^i*(s+2)-1) (eF a m i)
 |0,_=>QS.zero G
 |i+1,d=>by
  have b:1<=2^i:=km D;have f:s+2<=2^i*(s+2):=by have:=et (s+2) b;omega
  have:=(WU h i G).add<|(h i G).le G;exact this.le (by rw[fQ,hJ (2^i) 2,wh];omega)
def aus{m a}{t}(w:e9 m)(H:Ez m t a)(Q:t<=10000000):ao c 24 [S .q a,S .q m] (aQ<|eF a m<|Z m-1):=by
 obtain⟨n,y⟩:∃n,Z m=n+1:=⟨Z m-1,by have:=w.l2;omega⟩;have h5:=w.l5;have B:Z m-1=n:=G;have A:=wT w H G;have o:∀i,i<=100->∀j,QS 10000000 (I (b9 a m i) j 0):=λi x j=>(A i x).1.qs G j
 have u:=WU (a:=a) (m:=m)<|λi x=>o i x i;rw[B];refine aee (nx:=1) (n:=25) J J J J J J J ?_;refine kr iB J<|yj iB<|rc J J (JF 0 D D)<|z J<|mF<|yj iB ?_;refine rcN J J (ahs a m) D (λg C=>?_) (λg b d=>(P7 g b d).1) (λg b d=>(P7 g b d).2)<|λ_=>z J<|qu ?_
 .rw[iw.1 C];decide
 refine Ii (st':=⟨(11,.c<|.X 3002002)::lV AB,(3002002,.dI 122 [] yy)::mT a m (eF a m 0),5,[]⟩) aV ?_;refine aa1 (n0:=25) (nI:=21) (p:=12) (p2:=13) (cid:=3002002) (f:=122) (capsI:=yy) (wsI:=[.c (.P 3002001 0),.c<|.P 3002000 0]) (Sc:=AB) (M:=mT a m<|eF a m 0) (Mo:=mT (b9 a m n) m<|eF a m n) (bo:=ae) (xid:=1) J J J J J J J J (D:2+1<=21) (D:1<=5) (D:12<25) (D:13<25) D J J ?_ J ?_ ?_ (P6 J) (λg b d=>?_) ?_ ?_
 .intro s T;simp only[AB,bZ,Ka,or_false]at T;rcases T with rfl|rfl<;>rfl
 .intro t v Q E;have:=v8 Q;simp only[lV,AB,gJ,C5,bZ,bK,Ka,or_false]at this;rcases this with⟨_,rfl⟩|⟨_,rfl⟩|⟨_,rfl⟩<;>exact absurd (iw.1 E) D
 .intro g b d;refine(adJ<|λe=>?_).trans d;subst e;cases d
 .exact⟨(P6 (L:=mT (b9 a m n) m<|eF a m n) J g b d).1,(wH.of (K:=5000000) (m:=mT (b9 a m n) m<|eF a m n) J) g b d⟩
 .intro R F W r N U V e6 e7;refine aur (R:=R) F N r w H G y (λi x=>⟨⟨[(6,O i),(7,S .q<|b9 a m i),(4,.c<|.P 1000000 0),(5,.c<|.P 2001000 0)],wV::mT (b9 a m i) m (eF a m i),32,[]⟩,(D:1<=32),J,?_,?_⟩) J
  .rw[W,r,U,V,e6];exact kr EW J<|kt EW J<|aem aV
  .rw[W,e7];refine qu (kr EW J<|sV J (λh=>?_)<|λh=>uA ?_)
   .have h:i<Z (b9 a m i):=by have h:(i:Y)<(Z (b9 a m i):Y):=aW h;omega
    have l:=ad6 (k:=2000000000) (eF a m i) (I (b9 a m i) (af<|(i:Y)) 0) ((u i G).le<|by have:=et (10000000+2)<|eZ (D:0<2) (G:i<=6);omega) ((o i G _).le D) D;rw[show eF a m i+I (b9 a m i) (af<|(i:Y)) 0=eF a m (i+1)by rw[cr];rfl]at l;exact FX EW<|rc J J l (z J<|uB<|zs (st':=⟨[],wV::mT (b9 a m i) m (eF a m<|i+1),40,[]⟩) aV<|Vr J (D:1<=40) J) (hp:=aF)
   .have h:Z (b9 a m i)<=i:=by have h:¬(i:Y)<(Z (b9 a m i):Y):=bc h;omega
    have e:eF a m (i+1)=eF a m i:=by show eF a m i+I (b9 a m i) i 0=_;rw[g5 _ h,nl]
    rw[e];exact uB<|zs (st':=⟨[],wV::mT (b9 a m i) m (eF a m i),40,[]⟩) aV<|Vr J (D:1<=40) J
 .exact uB<|lU<|kr iB J<|S8<|Vq cv J<|bg.refl _
def aut{k}a b(g:b≠0)(l:QS k a)(f:QS k b)(m:k<=500000000000):ao c 73 [aQ a,aQ b] (.t [(ae,av .q<|a/b),(ah,[.I .i64 0])]):=by have o:=ad4 b (λp=>g<|yh p) (f.n.sm G)<|f.d.sm G;have i:=OT a b⁻¹ l (f.inv g) m;rw[<-uW]at i;refine aL Tryz.func73 ?_;refine e J<|R<|rc J J o<|z J<|j<|e J<|F J (λh=>fR)<|λ_=>aE ?_;exact R<|rc J J i<|z J<|c7 J
def mi(a:E (E N))(n:V):V->Option V
 |0=>none
 |k+1=>if Z (a.getD k [])<n then mi a n k else ad k
def P8(a:E (E N))(k b:V):E (E N):=(a.set k<|a.getD b []).set b<|a.getD k []
def jg(a:E (E N))(k n:V):E (E N):=if k=n then a else P8 a k n
def oK(v:N)(k n:V):N:=if k=n then v else-v
def AD(a p:E N)(n:V):E N:=sb a<|jd (I a n 0/I p n 0) p
def iT(a:E (E N))(n:V)(p:E N):V->E (E N)
 |0=>a
 |i+1=>if Z ((iT a n p i).getD i [])=n+1 then(iT a n p i).set i (AD ((iT a n p i).getD i []) p n)else iT a n p i
def NR:V->E (E N)->N->N
 |0,_,v=>v
 |n+1,rows,v=>match mi rows (n+1) (n+1)with
  |none=>0
  |some k=>NR n (iT (jg rows k n) n ((jg rows k n).getD n []) n)<|oK v k n*I ((jg rows k n).getD n []) n 0
section
variable{rows:E (E N)}{n k:V}{p:E N}
def WV{v}(h:mi rows (n+1) (n+1)=none):NR (n+1) rows v=0:=by rw[NR,h]
def WW{v}(h:mi rows (n+1) (n+1)=ad k):NR (n+1) rows v=NR n (iT (jg rows k n) n ((jg rows k n).getD n []) n) (oK v k n*I ((jg rows k n).getD n []) n 0):=by rw[NR,h]
def ahu:∀{a:V},mi rows n a=ad k->k<a/\¬Z (rows.getD k [])<n
 |0,h=>by cases h
 |a+1,h=>by
  rw[mi]at h;split at h
  .have:=ahu h;exact⟨G,this.2⟩
  .rename_i b;cases h;exact⟨dJ _,b⟩
def ahv:∀{a:V},mi rows n a=none->∀i,i<a->Z (rows.getD i [])<n
 |0,_,i,b=>absurd b<|tN _
 |a+1,h,i,b=>by
  rw[mi]at h;split at h
  .rename_i d;by_cases f:i=a
   .subst f;exact d
   .exact ahv h i G
  .cases h
def WY l{i}(x:E N)(b:i<Z l) a:(l.set i x).getD a []=if a=i then x else l.getD a []:=by
 rw[aN];by_cases e:a=i
 .subst e;rw[q J,List.getElem?_set_self b];rfl
 .rw[y e,List.getElem?_set_ne<|λh=>e h.symm,<-aN]
def ahw:Z (jg rows k n)=Z rows:=by
 unfold jg P8;split
 .rfl
 .rw[nG,nG]
def Kb(f:k<=n)(d:n<Z rows) a:(jg rows k n).getD a []=if a=n then rows.getD k []else if a=k then rows.getD n []else rows.getD a []:=by
 unfold jg;split
 .rename_i e;subst e;by_cases b:a=k
  .subst b;rw[q J]
  .rw[y b,y b]
 .rw[P8,WY _ _ (by rw[nG];exact d),WY _ _ G]
def Kc:∀i,Z (iT rows n p i)=Z rows
 |0=>rfl
 |i+1=>by
  rw[iT];split
  .rw[nG,Kc i]
  .exact Kc i
def AE:∀i,i<=Z rows->∀a,(iT rows n p i).getD a []=if a<i/\Z (rows.getD a [])=n+1 then AD (rows.getD a []) p n else rows.getD a []
 |0,_,a=>by rw[y (λh=>tN _ h.1)];rfl
 |i+1,f,a=>by
  have b:=AE i G i;rw[y (λh=>H3 _ h.1)]at b;rw[iT,b];split
  .rename_i d;rw[WY _ _ (by rw[Kc];omega)];by_cases e:a=i
   .subst e;rw[q J,q ⟨dJ _,d⟩]
   .rw[y e,AE i G a];by_cases h2:a<i/\Z (rows.getD a [])=n+1
    .rw[q h2,q ⟨G,h2.2⟩]
    .rw[y h2,y<|λh=>h2 ⟨G,h.2⟩]
  .rename_i d;rw[AE i G a];by_cases h2:a<i/\Z (rows.getD a [])=n+1
   .rw[q h2,q ⟨G,h2.2⟩]
   .rw[y h2,y (λh=>h2 ⟨by
     by_cases e:a=i
     .subst e;exact absurd h.2 d
     .omega,h.2⟩)]
end
def Rx.Ht.atK{a}{b}(h:Ht a b) i:Ht a (K<|b i):=by
 let ⟨D,d,h2,f⟩:=h;refine⟨D,d,h2,λj=>?_⟩;rw[lE];split
 .exact f i
 .exact⟨0,bf _,dY _⟩
def Rx.Ht.WZ{a b}{x d}(h:Ht a (K x))(k:Ht b (K d)):Ht (a*b) (K<|x*d):=by have:=h.smul k;rwa[<-fp,zS]at this
def Rx.Ht.auu{a b}{d B}(h:Ht a d)(k:Ht b B){i j}(f:B j≠0):Ht (a*b) (K<|d i/B j):=by rw[uW];exact(h.atK i).WZ<|k.inv f
def Rx.Ht.ahy{a}{x}(h:Ht a (K x)):Ht a (K<| -x):=by rw[N5];exact h.neg
def W0{a p}{T n}(b:Pz 4 T a)(f:Pz 4 T p)(g:I p n 0≠0)(s:Z a=n+1)(t:Z p=n+1):Pz 4 (4*T+1) (AD a p n)/\Z (AD a p n)<=n/\Ht (2^(T+T)) (K<|I a n 0/I p n 0):=by
 have h:Ht (2^(T+T)) (K<|I a n 0/I p n 0):=by rw[ku];exact b.ht.auu f.ht (i:=n) (j:=n) g
 have d:=b.sub<|f.F4 h;have k:Z (AD a p n)<=n:=by
  refine Ph d.can λi u=>?_
  show I (sb a<|jd _ p) i 0=0;rw[JR,Am];by_cases e:i=n
  .subst e;rw[uW,l7,nq _ g,nr];grind
  .have l:I a i 0=0:=g5 a G;have m:I p i 0=0:=g5 p G;rw[l,m,dY];grind
 have o:=b.len;exact⟨⟨d.can,G,d.ht.le<|eZ D G⟩,k,h⟩
structure tr(N n T:V)(a:E (E Rat)):Prop where
 len:a.length=N
 pz:∀i,Pz 4 T (a.getD i [])
 sh:∀i,i<n->(a.getD i []).length<=n
section
variable{N n T k:V}{rows:E (E Rat)}
def tr.W4(h:tr N (n+1) T rows)(d:n<N)(a:mi rows (n+1) (n+1)=ad k):k<=n/\(jg rows k n).getD n []=rows.getD k []/\Z (rows.getD k [])=n+1/\I (rows.getD k []) n 0≠0:=by have b:=ahu a;have f:=h.sh k b.1;have g:=h.len;have e:Z (rows.getD k [])=n+1:=G;refine⟨G,by rw[Kb G G,q J],e,?_⟩;exact(h.pz k).can.top e
def tr.sw(h:tr N (n+1) T rows)(f:n<N)(a:k<=n):tr N (n+1) T (jg rows k n):=by
 have b:=h.len;refine⟨by rw[ahw];exact b,λi=>?_,λi d=>?_⟩
 .rw[Kb a G];split
  .exact h.pz _
  .split
   .exact h.pz _
   .exact h.pz _
 .rw[Kb a G];split
  .exact h.sh _ G
  .split
   .exact h.sh _ G
   .exact h.sh _ d
def tr.el(h:tr N (n+1) T rows)(m:n<N){p}(b:Pz 4 T p)(d:I p n 0≠0)(f:Z p=n+1):tr N n (4*T+1) (iT rows n p n):=by
 have g:=h.len;refine⟨by rw[Kc];exact g,λi=>?_,λi l=>?_⟩
 .rw[AE n G];split
  .rename_i a;exact(W0 (h.pz i) b d a.2 f).1
  .exact(h.pz i).le (aT _) G
 .rw[AE n G];split
  .rename_i a;exact(W0 (h.pz i) b d a.2 f).2.1
  .rename_i a;have o:=h.sh i G;have s:Z (rows.getD i [])≠n+1:=λe=>a ⟨l,e⟩
   omega
end
def W5{P}{n}{x d}{g}{f:uz}{Q}{i:Type}(b:i->St)(k:i->Prop)(a:∀m,k m->TJ P n d (b m) f Q)(h:(∀m,k m->hP n .normal (b m) f (BU P d Q))->TJ P n x g f (BU P d Q)):TJ P n (.seq x d) g f Q:=mF<|h λm l=>lU<|a m l
def P9{n}{f}{a:uz}{Q}{b:Type}{d:b->St}{i:b->Prop}{k:b->V}{x}{g}{P}{l}(h:hP n .normal f a Q):TJ P n (.exit g) f a (BU P l<|Ig d i k x a<|EU g Q):=S7<|S9<|Tb<|Ta h
abbrev lN:E (V×AV):=[(4,.c<|.P 1000000 0),(5,.c<|.P 2000000 0),(8,.c<|.P 5001000 0)]
abbrev kN(a:E (E N))(v:N):E (V×aD):=[(4000000,.vec 29 LQ a),(2000000,.box 70 0 [.X 4000000]),(5001000,.box 44 0<|av .q v),(1000000,.box 44 0 zR)]
structure C'(N n L:V)(a:E (E Rat))(v:Rat):Prop where
 nN:n<=N
 N4:N<=4
 ex:∃T,T+1<=L*4^(N-n)/\tr N n T a
 hv:Ht (2^((N-n)*(L*256))) (K v)
def lt4{N n L}(h:N<=4):L*4^(N-n)<=L*256:=jk _<|b6 (eZ D (G:N-n<=4)) D
def C'.step{b n L k}{a}{v}(h:C' b (n+1) L a v)(l:mi a (n+1) (n+1)=ad k):C' b n L (iT (jg a k n) n ((jg a k n).getD n []) n) (oK v k n*I ((jg a k n).getD n []) n 0):=by
 let ⟨T,t,g⟩:=h.ex;have u:=h.nN;let ⟨p1,m,o,p⟩:=g.W4 G l;have i:=g.sw (k:=k) G p1;have d:=i.pz n;rw[m]at d⊢;have f:Ht (2^((b-(n+1))*(L*256))) (K<|oK v k n):=by
  unfold oK;split
  .exact h.hv
  .exact h.hv.ahy
 have e:b-n=(b-(n+1))+1:=G;refine⟨G,h.N4,⟨4*T+1,?_,i.el G d p o⟩,?_⟩
 .rw[e,fQ,<-wh];omega
 .have s:=f.WZ<|d.ht.atK n;refine s.le ?_;rw[<-ku];refine eZ D ?_;have w:=lt4 (N:=b) (n:=n+1) (L:=L) h.N4;rw[e,gy,iG];omega
def auv{m a}{t}(hm:e9 m)(ha:Ez m t a)(ht:t<=10000):ao c 22 [S .q a,S .q m] (aQ<|NR (Z m-1) (dL a m<|Z m-1) 1):=by
 obtain⟨n,hn⟩:∃n,Z m=n+1:=⟨Z m-1,by have:=hm.l2;omega⟩;have h5:=hm.l5;have Il:Z m-1=n:=G;have hz:=wT hm ha G;rw[Il];have C:∀i,Z (dL a m i)=i:=λi=>by rw[dL,cT,rV]
 have B:C' n n (t+101) (dL a m n) 1:=by
  refine⟨aT _,G,⟨t+100,by rw[kg,oC,oW];omega,C n,λi=>?_,λi hi=>?_⟩,by rw[kg,qf];exact Ht.one D⟩
  .by_cases h:i<n
   .rw[dL,aN,iN,jV h];exact(hz i G).1.le (aT _) G
   .rw[aN,jS<|by rw[C];omega];exact Pz.nil _ _
  .rw[dL,aN,iN,jV hi];have:=(hz i G).2;show Z (b9 a m i)<=n;omega
 obtain⟨P',U⟩:∃P',P'=NR n (dL a m n) 1:=⟨_,J⟩;rw[<-U];refine aee (nx:=1) (n:=125) J J J J J J J ?_;refine kr iB J<|kr iB J<|mF<|yj iB ?_;refine rcN J J (ahs a m) D (λid a6=>?_) (λid b hb=>(P7 id b hb).1) (λid b hb=>(P7 id b hb).2)<|λ_=>z J<|qu ?_
 .rw[iw.1 a6];decide
 refine Ii (st':=⟨(17,.c<|.X 3002002)::lV wU,(4000000,.vec 29 LQ [])::[(3002002,.dI 122 [] yy),(3002001,.box 29 0 [.S .q m]),(3002000,.box 29 0 [.S .q a]),(2000000,.box 70 0 [.X 4000000]),(1000000,.box 44 0 zR)],5,[]⟩) (apZ 4000000 29 LQ (bM J) ⟨.inl<|bR J,.inl<|bR J,.inl<|bR J,.inr ⟨_,_,J,J⟩,.inl<|bR J,A⟩ J<|wH.of J) ?_;refine Ii (st':=⟨(17,.c<|.X 3002002)::lV wU,(3002002,.dI 122 [] yy)::mN a m (dL a m 0),5,[]⟩) (wk (bM J) ⟨bR J,bR J,bR J,bR J,bR J,bE J J,A⟩) ?_;refine aa1 (n0:=125) (nI:=21) (p:=18) (p2:=19) (cid:=3002002) (f:=122) (capsI:=yy) (wsI:=[.c (.P 3002001 0),.c<|.P 3002000 0]) (Sc:=wU) (M:=mN a m<|dL a m 0) (Mo:=mN (b9 a m n) m<|dL a m n) (bo:=ae) (xid:=1) J J J J J J J J (D:2+1<=21) (D:1<=5) (D:18<125) (D:19<125) D J J ?_ J ?_ ?_ (P6 J) (λid b hb=>?_) ?_ ?_
 .intro s hs;simp only[wU,bZ,Ka,or_false]at hs;rcases hs with rfl|rfl<;>rfl
 .intro t v ht hv;have:=v8 ht;simp only[lV,wU,gJ,C5,bZ,bK,Ka,or_false]at this;rcases this with⟨_,rfl⟩|⟨_,rfl⟩|⟨_,rfl⟩<;>exact absurd (iw.1 hv) D
 .intro id b hb;refine(adJ<|λe=>?_).trans hb;subst e;cases hb
 .exact⟨(P6 (L:=mN (b9 a m n) m<|dL a m n) J id b hb).1,(wH.of (K:=5000000) (m:=mN (b9 a m n) m<|dL a m n) J) id b hb⟩
 .intro R ok e1 e2 e3 e4 e5 e6 e7;refine auq (R:=R) ok e3 e2 hm ha G hn (λi hi=>⟨⟨[(7,S .q<|b9 a m i),(4,.c<|.P 1000000 0),(5,.c<|.P 2000000 0)],yz::mN (b9 a m i) m (dL a m i),31,[]⟩,(D:1<=31),J,?_,?_⟩) J
  .rw[e1,e2,e4,e5,e6];exact kt EW J<|aem aV
  .rw[e1,e7];refine qu (FX EW<|rl LQ [b9 a m i] J J (ra J J J J J J J J J ?_ ?_<|apb cv J J J J J (Nat.lt_of_sub_eq_succ J)<|z J ?_))
   .show(Z (dL a m i)+1+(Z (dL a m i)+1)/4+192)*24<=_;rw[C];omega
   .show(Z (dL a m i)+1)*1<=_;rw[C];omega
   .refine uB<|zs (st':=⟨[],yz::mN (b9 a m i) m (dL a m<|i+1),42,[]⟩) (apc (mw 4000000 31003000) A ⟨bE J J,bE J J,bE J J,bE J ?_,bE J J,bE J J,A⟩ J (ap4 J)<|wH.of J)<|Vr J (D:1<=42) J;show aD.vec 29 LQ (dL a m i++[b9 a m i])=aD.vec 29 LQ (dL a m<|i+1);rw[dL,dL,yB,fF];rfl
 refine uB<|lU ?_;generalize dL a m n=Q at*;refine Ii (st':=⟨lV wU,[(4000000,.vec 29 LQ Q),(2000000,.box 70 0 [.X 4000000]),(1000000,.box 44 0 zR)],5,[]⟩) aV ?_;refine yj iB<|rc J J (JF 1 D D)<|z J ?_;have av6:Z Q=n:=by let ⟨_,_,hr⟩:=B.ex;exact hr.len
 refine W5 (λw:N=>⟨[(4,.c<|.P 1000000 0),(8,.c<|.P 5001000 0)],[(5001000,.box 44 0<|av .q w),(1000000,.box 44 0 zR)],60,[]⟩) (λw=>w=P') (λw hw=>?_)<|λu=>?_
 .subst hw;exact kr iB J<|S8<|Vq cv J<|bg.refl _
 refine kr iB J<|qu<|Ij (α:=V×E (E N)×N) (λx=>⟨(9,O x.1)::lN,kN x.2.1 x.2.2,7,[]⟩) (λx=>C' n x.1 (t+101) x.2.1 x.2.2/\NR x.1 x.2.1 x.2.2=P') (λx=>x.1) (n,Q,1) ⟨B,U.symm⟩ (wk ⟨sE J ?_,sR J,sR J,sR J,A⟩<|ow J) ?_
 .exact bh O G
 clear B U hz C;rintro⟨g,d,v⟩ ⟨H,hR⟩;simp only at H hR;refine mF<|kr iB J<|sV J (λh=>?_)<|λh=>?_;rotate_left
 .have h:g=0:=by have h:¬(g:Y)>0:=bc h;omega
  subst h;exact P9<|zs (st':=⟨[(4,.c<|.P 1000000 0),(8,.c<|.P 5001000 0)],[(5001000,.box 44 0<|av .q v),(1000000,.box 44 0 zR)],60,[]⟩) aV<|u v hR
 clear u;obtain⟨g,rfl⟩:∃j,g=j+1:=⟨g-1,by have h:(g:Y)>0:=aW h;omega⟩;let ⟨T,hT,hr⟩:=H.ex;have hqN:=H.nN;have hT4:=lt4 (N:=n) (n:=g+1) (L:=t+101) H.N4;have hlr:=hr.len;have hVb:(n-(g+1))*((t+101)*256)<=4*((t+101)*256):=et _ (by have:=H.N4;omega);have hT1:T<=3000000:=G;have hV1:(n-(g+1))*((t+101)*256)<=12000000:=G;refine uA<|lU<|mF<|qu<|kr iB J ?_;refine W5 (λo:V=>⟨(10,O<|(o:Y)-1)::(9,O (g+1:V))::lN,kN d v,20,[]⟩) (λo=>o<=g+1/\mi d (g+1) o=mi d (g+1) (g+1)/\(o=0\/¬Z (d.getD (o-1) [])<g+1)) (λo hc=>?_)<|λu=>?_;rotate_left
 .refine qu<|Ij (α:=V) (λo=>⟨(10,O<|(o:Y)-1)::(9,O (g+1:V))::lN,kN d v,9,[]⟩) (λo=>o<=g+1/\mi d (g+1) o=mi d (g+1) (g+1)) (λo=>o) (g+1) ⟨aT _,J⟩ aV ?_;rintro o ⟨c1,c2⟩;refine mF (yj iB<|rg 35 J J (λh2=>?_)<|λh2=>?_)
  .have h2:(o:Y)-1>=0:=aW h2;obtain⟨k,rfl⟩:∃k,o=k+1:=⟨o-1,G⟩;have ek:af (((k+1:V):Y)-1)=k:=G;refine z J (sV J (λW=>?_)<|λW=>?_) (hp:=aF)
   .have W:((Z (d.getD (af<|((k+1:V):Y)-1) []):V):Y)<((g+1:V):Y):=aW W;rw[ek]at W;refine uA (lU<|qu<|kt iB J<|uB<|EV k ⟨G,?_⟩ (dJ k)<|wk ⟨sE J ?_,sR J,sR J,sR J,sR J,A⟩<|ow J)
    .rw[<-c2,mi,q G]
    .exact bh O G
   .have W:¬((Z (d.getD (af<|((k+1:V):Y)-1) []):V):Y)<((g+1:V):Y):=bc W;rw[ek]at W;exact P9<|zs (st':=⟨(10,O<|((k+1:V):Y)-1)::(9,O (g+1:V))::lN,kN d v,20,[]⟩) aV<|u (k+1) ⟨c1,c2,.inr<|by rw[eE];omega⟩
  .have h2:¬(o:Y)-1>=0:=bc h2;have hc:o=0:=G;subst hc;exact z J<|sV J (λW=>by cases W)<|λ_=>P9<|zs (st':=⟨(10,O<|((0:V):Y)-1)::(9,O (g+1:V))::lN,kN d v,20,[]⟩) aV<|u 0 ⟨G,c2,.inl J⟩
 obtain⟨c1,c2,c3⟩:=hc;refine mF<|kr iB J<|sV J (λh2=>?_)<|λh2=>uA<|lU ?_
 .have h2:(o:Y)-1<0:=aW h2;have hc:o=0:=G;subst hc;have auw:mi d (g+1) (g+1)=none:=c2.symm;rw[WV auw]at hR;subst hR;refine yj iB<|rc J J (JF 0 D D)<|z J<|S8 ?_;refine S'<|aaT<|S'<|amd<|aaT<|S' ?_;exact Vq cv J<|bg.refl _
 have h2:¬(o:Y)-1<0:=bc h2;obtain⟨k,rfl⟩:∃k,o=k+1:=⟨o-1,G⟩;have c3:¬Z (d.getD k [])<g+1:=by
  rcases c3 with c3|c3
  .cases c3
  .rwa[eE]at c3
 have r:mi d (g+1) (g+1)=ad k:=by rw[<-c2,mi,y c3]
 have ek:af (((k+1:V):Y)-1)=k:=G;have Kd:af (((g+1:V):Y)-1)=g:=G;let ⟨p1,p2,p3,p4⟩:=hr.W4 G r;have Hn:=H.step r;rw[WW r]at hR;have hs:=hr.sw (k:=k) G p1;have F:=hs.pz g;have oB:Ht (2^((n-(g+1))*((t+101)*256))) (K<|oK v k g):=by
  unfold oK;split
  .exact H.hv
  .exact H.hv.ahy
 have vR:=oB.Az (s:=1000000000) G;have auy:=H.hv.Az (s:=1000000000) G;have Pj:Z (jg d k g)=Z d:=ahw;refine W5 (λ_:Unit=>⟨(9,O (g+1:V))::lN,kN (jg d k g)<|oK v k g,30,[]⟩) (λ_=>True) (λ_ _=>?_)<|λu=>kr iB J<|sV J (λW=>?_)<|λW=>uA ?_;rotate_left
 .have W:=zK W;have Ke:k≠g:=G;have e1:jg d k g=(d.set (af<|((k+1:V):Y)-1)<|d.getD (af<|((g+1:V):Y)-1) []).set (af<|((g+1:V):Y)-1) (d.getD (af<|((k+1:V):Y)-1) []):=by rw[ek,Kd,jg,y Ke,P8]
  have e2:oK v k g= -v:=by rw[oK,y Ke]
  rw[e1,e2]at u;refine yj iB<|ux (T:=LQ) (d.getD (af<|((g+1:V):Y)-1) []) J J J J J (by rw[ek];omega) (ux (T:=LQ) (d.getD (af<|((k+1:V):Y)-1) []) J J J J J (by rw[Kd,nG];omega)<|z J ?_) (hp:=aF);exact FX iB<|rc J J (ad3 v<|auy.n.sm G)<|z J<|zs (st':=⟨(9,O (g+1:V))::lN,kN ((d.set (af<|((k+1:V):Y)-1)<|d.getD (af<|((g+1:V):Y)-1) []).set (af<|((g+1:V):Y)-1)<|d.getD (af<|((k+1:V):Y)-1) [])<| -v,30,[]⟩) aV<|u () A
 .have W:=xS W;have Ke:k=g:=G;have e1:jg d k g=d:=by rw[jg,q Ke]
  have e2:oK v k g=v:=by rw[oK,q Ke]
  rw[e1,e2]at u;exact zs (st':=⟨(9,O (g+1:V))::lN,kN d v,30,[]⟩) aV<|u () A
 rw[p2]at hR Hn F;have hg:=Kb (rows:=d) p1 G;generalize jg d k g=l at*;generalize oK v k g=v1 at*;have auz:l.getD g []=d.getD k []:=p2;generalize d.getD k []=p at*;refine kr iB J ?_ (hp:=aF);have hpq:l.getD (af<|((g+1:V):Y)-1) []=p:=by rw[Kd];exact auz
 have hmul:=OT (k:=1000000000) v1 (I p (af<|((g+1:V):Y)-1) 0) vR ((F.qs (s:=1000000000) G) _) D;refine Ii (st':=⟨(11,S .q p)::(9,O (g+1:V))::lN,kN l v1,31,[]⟩) (wk ⟨sE J ?_,sR J,sR J,sR J,sR J,A⟩<|ow J) ?_
 .rw[hpq]
 refine yj iB<|rc J J hmul (z J ?_) (hp:=aF);rw[Kd];refine kr iB J ?_;refine qu<|Ij (α:=V) (λi=>⟨(84,O g)::(85,O i)::(11,S .q p)::(9,O (g+1:V))::lN,kN (iT l g p i)<|v1*I p g 0,34,[]⟩) (λi=>i<=g) (λi=>g-i) 0 (bf _) (wk ⟨sE J ?_,sR J,sR J,sR J,sR J,sR J,sR J,A⟩<|ow J) ?_
 .exact bh O G
 intro i hi;have hli:=Kc (rows:=l) (n:=g) (p:=p) i;have Qa:=AE (rows:=l) (n:=g) (p:=p) i G i;rw[y (λh=>H3 _ h.1)]at Qa;refine kr iB J<|mF<|sV J (λh4=>?_)<|λh4=>?_
 .have h4:i<g:=by have h4:(i:Y)<(g:Y):=aW h4;omega
  have ei:af ((i:Y))=i:=cr i;have Kf:(iT l g p i).getD (af<|(i:Y)) []=l.getD i []:=by rw[ei];exact Qa
  have FY:=hs.pz i;refine uA<|lU<|mF<|qu<|kr iB J ?_;refine kr iB J (sV J (λh6=>?_)<|λh6=>uA<|uB<|lU<|kt iB J<|EV (i+1) h4 (G:g-(i+1)<g-i)<|wk ⟨sR J,sE J ?_,sR J,sR J,sR J,sR J,sR J,A⟩ ⟨bE J ?_,bR J,bR J,bR J,A⟩) (hp:=aF)
  .have h6:(Z ((iT l g p i).getD (af<|(i:Y)) []):Y)=((g+1:V):Y):=eq_of_beq h6;rw[Kf]at h6;have h6:Z (l.getD i [])=g+1:=G;let ⟨z1,z2,z3⟩:=W0 FY F p4 h6 p3;have hle:Z (I (iT l g p i) (af<|(i:Y)) LQ.dG)=g+1:=by show Z ((iT l g p i).getD (af<|(i:Y)) [])=g+1;rw[Kf];exact h6
   have hdiv:ao c 73 [aQ (I ((iT l g p i).getD (af<|(i:Y)) []) (af<|((g+1:V):Y)-1) 0),aQ<|I p (af<|((g+1:V):Y)-1) 0] (.t [(ae,av .q<|I (l.getD i []) g 0/I p g 0),(ah,[.I .i64 0])]):=by rw[Kf,Kd];exact aut (k:=1000000000) _ _ p4 (FY.qs G _) (F.qs G _) D
   have auC:=F.atD (s:=1000000000) (z3.Az G) D G D;have tX:ao c 74 [S .q ((iT l g p i).getD (af<|(i:Y)) []),S .q<|jd (I (l.getD i []) g 0/I p g 0) p] (S .q<|AD (l.getD i []) p g):=by rw[Kf];exact FY.atB (F.F4 z3) (s:=1000000000) D D G G D
   refine yj iB<|rc J J hdiv (z J ?_) (hp:=aF);refine FX iB<|rc J J auC (rc J J tX<|ux (T:=LQ) (AD (l.getD i []) p g) J J J J J (by rw[ei,hli];omega) (z J<|uB<|lU<|kt iB J<|EV (i+1) h4 (G:g-(i+1)<g-i)<|wk ⟨sR J,sE J ?_,sR J,sR J,sR J,sR J,sR J,A⟩ ⟨bE J ?_,bR J,bR J,bR J,A⟩) (hp:=aF)) (hp:=aF)
   .exact bh O G
   .rw[ei,iT,Qa,q h6]
  .exact bh O G
  .have h6:(Z ((iT l g p i).getD (af<|(i:Y)) []):Y)≠((g+1:V):Y):=ne_of_beq_false h6;rw[Kf]at h6;rw[iT,Qa,y G]
 .have h4:i=g:=by have h4:¬(i:Y)<(g:Y):=bc h4;omega
  subst h4;refine P9<|uB<|lU<|kt iB J<|EV (i,iT l i p i,v1*I p i 0) ⟨Hn,hR⟩ (dJ i)<|wk ⟨sE J ?_,sR J,sR J,sR J,A⟩<|ow J
  .exact bh O G
def q5(a b f d:N):N:=a*d-b*f
def pK(a b l d k f g h i:N):N:=a*q5 k f h i-b*q5 d f g i+l*q5 d k g h
def pM(p s t u a b d f g h i k l m n o:N):N:=p*pK b d f h i k m n o-s*pK a d f g i k l n o+t*pK a b f g h k l m o-u*pK a b d g h i l m n
def auD a b d f g h i k l m n o p s t u v w x B H L P Q T W Kg Kh Ki Kj Kk Ko:pM (a*v+b*H+d*T+f*Ki) (a*w+b*L+d*W+f*Kj) (a*x+b*P+d*Kg+f*Kk) (a*B+b*Q+d*Kh+f*Ko) (g*v+h*H+i*T+k*Ki) (g*w+h*L+i*W+k*Kj) (g*x+h*P+i*Kg+k*Kk) (g*B+h*Q+i*Kh+k*Ko) (l*v+m*H+n*T+o*Ki) (l*w+m*L+n*W+o*Kj) (l*x+m*P+n*Kg+o*Kk) (l*B+m*Q+n*Kh+o*Ko) (p*v+s*H+t*T+u*Ki) (p*w+s*L+t*W+u*Kj) (p*x+s*P+t*Kg+u*Kk) (p*B+s*Q+t*Kh+u*Ko)=pM a b d f g h i k l m n o p s t u*pM v w x B H L P Q T W Kg Kh Ki Kj Kk Ko:=by unfold pM pK q5;grind
abbrev Mx:=V->V->N
def fa(a:Mx):N:=pM (a 0 0) (a 0 1) (a 0 2) (a 0 3) (a 1 0) (a 1 1) (a 1 2) (a 1 3) (a 2 0) (a 2 1) (a 2 2) (a 2 3) (a 3 0) (a 3 1) (a 3 2)<|a 3 3
def mulM(a B:Mx):Mx:=λi j=>a i 0*B 0 j+a i 1*B 1 j+a i 2*B 2 j+a i 3*B 3 j
def auE(a B:Mx):fa (mulM a B)=fa a*fa B:=auD ..
def Gq{b B:Mx}(h:∀i a,i<4->a<4->b i a=B i a):fa b=fa B:=by unfold fa;rw[h 0 0 D D,h 0 1 D D,h 0 2 D D,h 0 3 D D,h 1 0 D D,h 1 1 D D,h 1 2 D D,h 1 3 D D,h 2 0 D D,h 2 1 D D,h 2 2 D D,h 2 3 D D,h 3 0 D D,h 3 1 D D,h 3 2 D D,h 3 3 D D]
def W6{P:V->Prop}(a:P 0)(b:P 1)(d:P 2)(f:P 3){n}(h:n<4):P n:=by
 match n,h with
 |0,_=>exact a
 |1,_=>exact b
 |2,_=>exact d
 |3,_=>exact f
def Gs(a:Mx)(k n:V):Mx:=λi=>if i=n then a k else if i=k then a n else a i
def W7(a:Mx)(n:V)(b:V->N):Mx:=λi j=>if i<n then a i j-b i*a n j else a i j
def AF(a:Mx)(n:V):Mx:=λi j=>if i=n then(if i=j then 1 else 0)else a i j
def idF:Mx:=λi j=>if i=j then 1 else 0
def auF:fa idF=1:=by simp[fa,idF,pM,pK,q5];try grind
def auG(b:Mx){k n}(d:n<4)(a:k<n):fa (Gs b k n)= -fa b:=by
 revert k;refine W6 (P:=λn=>∀{k:V},k<n->fa (Gs b k n)= -fa b) ?_ ?_ ?_ ?_ d
 .intro k a;exact absurd a<|tN _
 .intro k a;have:k=0:=G;rcases this with rfl;all_goals
   simp[fa,Gs,pM,pK,q5]
   grind
 .intro k a;have:k=0\/k=1:=G;rcases this with rfl|rfl;all_goals
   simp[fa,Gs,pM,pK,q5]
   grind
 .intro k a;have:k=0\/k=1\/k=2:=G;rcases this with rfl|rfl|rfl;all_goals
   simp[fa,Gs,pM,pK,q5]
   grind
def auH(a:Mx){n}(d:n<4)(b:V->N):fa (W7 a n b)=fa a:=by
 refine W6 (P:=λn=>fa (W7 a n b)=fa a) ?_ ?_ ?_ ?_ d;all_goals
  simp[fa,W7,pM,pK,q5]
  try grind
def ahB(a:Mx){n}(k:n<4)(h:∀i,i<4->i≠n->a i n=0):fa a=a n n*fa (AF a n):=by
 revert h;refine W6 (P:=λn=>(∀i,i<4->i≠n->a i n=0)->fa a=a n n*fa (AF a n)) ?_ ?_ ?_ ?_ k
 .intro h;have b:=h 1 D D;have d:=h 2 D D;have f:=h 3 D D;simp[fa,AF,pM,pK,q5,b,d,f];try grind
 .intro h;have g:=h 0 D D;have d:=h 2 D D;have f:=h 3 D D;simp[fa,AF,pM,pK,q5,g,d,f];try grind
 .intro h;have g:=h 0 D D;have b:=h 1 D D;have f:=h 3 D D;simp[fa,AF,pM,pK,q5,g,b,f];try grind
 .intro h;have g:=h 0 D D;have b:=h 1 D D;have d:=h 2 D D;simp[fa,AF,pM,pK,q5,g,b,d];try grind
def auI(a:Mx){n}(b:n<4)(h:∀i,i<4->a i n=0):fa a=0:=by rw[ahB a b (λi d _=>h i d),h n b,mO]
def dM(a:E (E N))(n:V):Mx:=λi j=>if i<n then I (a.getD i []) j 0 else if i=j then 1 else 0
def ahC{s:V}(L:s<=4):∀(n T:V)(f:E (E N))(v:N),n<=s->tr s n T f->NR n f v=v*fa (dM f n)
 |0,T,f,v,_,_=>by have:fa (dM f 0)=1:=(Gq λi j _ _=>by rw[dM,y<|tN _];rfl).trans auF;rw[this,nr];rfl
 |n+1,T,f,v,F,h=>by
  have J:=h.len;cases t:mi f (n+1) (n+1)with
  |none=>
   have l:=ahv t
   rw[WV t,auI (dM f<|n+1) (n:=n) G<|λi u=>?_,dY]
   rw[dM]
   split
   .rename_i C;exact g5 _ (by have:=l i C;omega)
   .rename_i C;exact y G
  |some k=>
   rw[WW t]
   let ⟨p1,w,K,P⟩:=h.W4 G t
   have l:=h.sw (k:=k) G p1
   have m:=l.pz n
   have Q:=Kb (rows:=f) p1 G
   have W:oK v k n*fa (dM (jg f k n)<|n+1)=v*fa (dM f<|n+1):=by
    by_cases g:k=n
    .rw[oK,q g,jg,q g]
    .have X:fa (dM (jg f k n)<|n+1)=fa (Gs (dM f<|n+1) k n):=Gq λi j u H=>by
      show(if i<n+1 then I ((jg f k n).getD i []) j 0 else _)=(if i=n then dM f (n+1) k else if i=k then dM f (n+1) n else dM f (n+1) i) j;rw[Q];by_cases a:i=n
      .rw[q G,q a,q a,dM,q G]
      .rw[y a,y a];by_cases b:i=k
       .rw[q G,q b,q b,dM,q G]
       .rw[y b,y b];rfl
     rw[X,auG _ G G,oK,y g];grind
   rw[<-W]
   rw[w]at m⊢
   have x:Z (jg f k n)=s:=l.len
   generalize jg f k n=d at*
   generalize f.getD k []=p at*
   have o:=l.el G m P K
   have c:fa (dM (iT d n p n)<|n+1)=fa (dM d<|n+1):=by
    refine(Gq λi j u H=>?_).trans<|auH (dM d<|n+1) (n:=n) G<|λi=>if Z (d.getD i [])=n+1 then I (d.getD i []) n 0/I p n 0 else 0;show(if i<n+1 then I ((iT d n p n).getD i []) j 0 else _)=if i<n then dM d (n+1) i j-(if Z (d.getD i [])=n+1 then I (d.getD i []) n 0/I p n 0 else 0)*dM d (n+1) n j else dM d (n+1) i j
    rw[AE n G i];have e:dM d (n+1) n j=I p j 0:=by rw[dM,q G,w]
    by_cases a:i<n
    .have r:dM d (n+1) i j=I (d.getD i []) j 0:=by rw[dM,q G]
     rw[q G,q a,e,r];by_cases b:Z (d.getD i [])=n+1
     .rw[q ⟨a,b⟩,q b,AD,JR,Am]
     .rw[y (λh=>b h.2),y b,mO];grind
    .rw[y a,y<|λ(h:i<n/\Z (d.getD i [])=n+1)=>a h.1];rfl
   have z:=ahB (dM (iT d n p n)<|n+1) (n:=n) G (λi u B=>by
    rw[dM];split
    .exact g5 _<|o.sh i G
    .first
     |exact y B
     |rfl)
   have A:dM (iT d n p n) (n+1) n n=I p n 0:=by rw[dM,q G,AE n G n,y<|λh=>H3 _ h.1,w]
   have D:fa (AF (dM (iT d n p n)<|n+1) n)=fa (dM (iT d n p n) n):=Gq λi j u H=>by
    unfold AF dM;by_cases a:i=n
    .rw[q a,y (G:¬i<n)]
    .rw[y a];by_cases b:i<n
     .rw[q G,q b]
     .rw[y G,y b]
   rw[ahC L n _ _ _ G o,<-c,z,A,D,l7]
def sX(f:V->Rx):V->Rx
 |0=>0
 |k+1=>sX f k+f k
def ahD{M:Rx}{f g:V->Rx}(h:∀k,M∣f k-g k):∀n,M∣sX f n-sX g n
 |0=>n6 _ _
 |n+1=>N3 (ahD h n)<|h n
def ahE(p:E N):∀n,lx (List.take n p)=sX (λk=>K (I p k 0)*X k) n
 |0=>by rw[Fl];exact pj
 |n+1=>by rw[ag7,ahE p n];rfl
def ahF(f:V->Rx)(a:Rx):∀n,sX f n*a=sX (λk=>f k*a) n
 |0=>Rx.zero_mul a
 |n+1=>by show(sX f n+f n)*a=sX (λk=>f k*a) n+f n*a;rw[Rx.add_mul,ahF f a n]
def auJ(f:V->Rx) a:sX f 4 a=f 0 a+f 1 a+f 2 a+f 3 a:=by show(0+f 0+f 1+f 2+f 3) a=_;rw[eo,eo,eo,eo,l3,FF]
section
variable{m a b:E N}{t u w n:V}
def Qb(f:e9 m){d B}(g:sz d<Z m)(i:sz B<Z m)(h:lx m∣d-B):d=B:=by refine Cq<|s8 h ?_;have:=FI d B;rw[fS f.can];omega
def wW(f:e9 m)(d:E N):∀i,lx m∣lx (b9 d m i)-X i*lx d
 |0=>by rw[acK,Rx.one_mul];exact n6 _ _
 |i+1=>by have g:lx m∣lx (fm (b9 d m i) [0,1] m)-lx (b9 d m i)*lx [0,1]:=WJ f.can f.ne;have h:=oD (wW f d i)<|n6 (lx m)<|X 1;rw[ahq]at g;rw[Fq,(fq:X i*X 1*lx d=X i*lx d*X 1)];exact np g h
def AG(d:e9 m)(f:Ez m t a)(g:t<=100000000){i}(h:i<=100):sz (lx<|b9 a m i)<Z m:=by have:=wT d f g i h;rw[fS this.1.can];exact this.2
def szK f d:sz (K f*d)<=sz d:=n7 λi g=>by rw[dZ,mb g,dY]
def auK(d:e9 m)(Q:Ez m t a)(T:Ez m u b)(p:Ez m w (fm a b m))(W:t<=100000000)(hu:u<=100000000)(hw:w<=100000000){i}(B:i<=100):lx (b9 (fm a b m) m i)=sX (λk=>K (I (b9 a m i) k 0)*lx (b9 b m k)) 4:=by
 have y:=d.l5;have s:=wT d Q W i B;have c:=s.2;have C:=d.l2;have e:lx (b9 a m i)=sX (λk=>K (I (b9 a m i) k 0)*X k) 4:=by rw[<-ahE,iY G]
 have v:∀A:Rx,(∀k,k<4->True)->lx m∣sX (λk=>K (I (b9 a m i) k 0)*lx (b9 b m k)) 4-lx (b9 a m i)*lx b:=λ_ _=>by have h:=ahD (M:=lx m) (f:=λk=>K (I (b9 a m i) k 0)*lx (b9 b m k)) (g:=λk=>K (I (b9 a m i) k 0)*X k*lx b) (λk=>by have:=oD (n6 (lx m)<|K<|I (b9 a m i) k 0)<|wW d b k;rwa[<-Rx.mul_assoc]at this) 4;rw[<-ahF,<-e]at h;exact h
 have x:∀k,k<4->sz (lx<|b9 b m k)<Z m:=λk H=>AG d T hu G
 refine Qb d (AG d p hw B) ?_ ?_
 .have l:∀k,k<4->sz (K (I (b9 a m i) k 0)*lx (b9 b m k))<=Z m-1:=λk H=>by have h:=szK (I (b9 a m i) k 0)<|lx<|b9 b m k;have:=x k H;omega
  have L:sz (sX (λk=>K (I (b9 a m i) k 0)*lx (b9 b m k)) 4)<=Z m-1:=by
   have j:=l 0 D;have q:=l 1 D;have C:=l 2 D;have h:=l 3 D;generalize o:(λk=>K (I (b9 a m i) k 0)*lx (b9 b m k))=f;have z:sz (f 0)<=Z m-1:=by rw[<-o];exact j
   have E:sz (f 1)<=Z m-1:=by rw[<-o];exact q
   have F:sz (f 2)<=Z m-1:=by rw[<-o];exact C
   have J:sz (f 3)<=Z m-1:=by rw[<-o];exact h
   show sz (0+f 0+f 1+f 2+f 3)<=_;have N:=zW (0+f 0+f 1+f 2)<|f 3;have O:=zW (0+f 0+f 1)<|f 2;have R:=zW (0+f 0)<|f 1;have r:=zW 0<|f 0;rw[kv]at r;omega
  omega
 .have h:=wW d (fm a b m) i;have L:=oD (n6 (lx m)<|X i)<|WJ (a:=a) (b:=b) d.can d.ne;have P:=oD (wW d a i)<|n6 (lx m)<|lx b;rw[Rx.mul_assoc]at P;exact np h<|np L<|np (n5 P)<|n5<|v 0 λ_ _=>trivial
def mV(a m:E N):N:=fa<|dM (dL a m<|Z m-1)<|Z m-1
def Gt{i}(h:i<n):(dL a m n).getD i []=b9 a m i:=by rw[dL,aN,iN,jV h];rfl
def ahH(f:e9 m)(o:Ez m t a)(v:Ez m u b)(g:Ez m w (fm a b m))(p:t<=100000000)(x:u<=100000000)(B:w<=100000000):mV (fm a b m) m=mV a m*mV b m:=by
 have Q:=f.l5;obtain⟨n,C⟩:∃n,n=Z m-1:=⟨_,J⟩;unfold mV;rw[<-C,<-auE];refine Gq λi j T W=>?_
 by_cases h:i<n
 .have d:dM (dL (fm a b m) m n) n i j=lx (b9 (fm a b m) m i) j:=by rw[dM,q h,Gt h];rfl
  rw[d,auK f o v g p x B G,auJ];have l:∀k,(K (I (b9 a m i) k 0)*lx (b9 b m k)) j=dM (dL a m n) n i k*dM (dL b m n) n k j:=λk=>by
   have H:dM (dL a m n) n i k=I (b9 a m i) k 0:=by rw[dM,q h,Gt h]
   rw[H,dZ];by_cases s:k<n
   .have L:dM (dL b m n) n k j=lx (b9 b m k) j:=by rw[dM,q s,Gt s];rfl
    rw[L]
   .have:I (b9 a m i) k 0=0:=g5 _ (by have:=(wT f o p i G).2;omega);rw[this,mO,mO]
  simp only[l];rfl
 .have d:∀c:E N,∀k,dM (dL c m n) n i k=if i=k then 1 else 0:=λc k=>by rw[dM,y h]
  show _=dM (dL a m n) n i 0*dM (dL b m n) n 0 j+dM (dL a m n) n i 1*dM (dL b m n) n 1 j+dM (dL a m n) n i 2*dM (dL b m n) n 2 j+dM (dL a m n) n i 3*dM (dL b m n) n 3 j;rw[d,<-d b j,d a,d a,d a,d a];have P:i=0\/i=1\/i=2\/i=3:=G;rcases P with rfl|rfl|rfl|rfl<;>simp<;>grind
def Qc d:lx (iC d)=K d:=by rw[iC,r9,I7]
def ahI(f:e9 m){d}(g:Ht (2^t) (K d)):Ez m t (iC d):=by have h:=f.l2;have i:Z (iC d)<=1:=b6 (An _) (by rw[rA];exact aT _);exact⟨⟨k6 _,G,by rw[Qc];exact g⟩,G⟩
def ahJ(d:e9 m){f}(g:Ht (2^t) (K f))(h:t<=100000000){i}(k:i<Z m-1):lx (b9 (iC f) m i)=K f*X i:=by
 have l:=d.l5;refine Qb d (AG d (ahI d g) h G) ?_ ?_
 .have:sz (K f*X i)<=i+1:=n7 λj o=>by rw[dZ,rX,y G,dY]
  omega
 .have:=wW d (iC f) i;rwa[Qc,Rx.mul_comm<|X i]at this
def so(d:N):V->N
 |0=>1
 |n+1=>so d n*d
def W8(f:e9 m){c}(g:Ht (2^t) (K c))(o:t<=100000000):mV (iC c) m=so c (Z m-1):=by
 have s:=f.l5;have v:=f.l2;obtain⟨n,k⟩:∃n,n=Z m-1:=⟨_,J⟩;unfold mV;rw[<-k];have e:fa (dM (dL (iC c) m n) n)=fa (λi j=>if i<n then(if j=i then c else 0)else if i=j then 1 else 0):=Gq λi j x d=>by
  rw[dM];by_cases h:i<n
  .rw[q h,q h,Gt h];have p:=ahJ f g o (i:=i) G;have l:lx (b9 (iC c) m i) j=(K c*X i) j:=by rw[p]
   rw[dZ,rX,fj]at l;rw[l];by_cases d:j=i
   .rw[q d,q d,nr]
   .rw[y d,y d,dY]
  .rw[y h,y h]
 rw[e];have g:n=1\/n=2\/n=3\/n=4:=G;clear k;rcases g with rfl|rfl|rfl|rfl<;>simp[fa,pM,pK,q5,so]<;>grind
def auL(d:e9 m):mV [] m=0:=by have g:=d.l2;have e:iC 0=[]:=rY (k6 _) wq (by rw[Qc,nj,pj]);have:=W8 d (c:=0) (t:=0) (by rw[nj];exact Ht.zero D) D;rw[e]at this;rw[this];obtain⟨k,f⟩:∃k,Z m-1=k+1:=⟨Z m-2,G⟩;rw[f,so,dY]
def auM(d:e9 m)(f:Ez m t a)(g:a≠[])(i:7<=t)(v:t<=1000000):mV a m≠0:=λh=>by
 let ⟨_,o⟩:=ahm d f g i;have p:iC 1=[1]:=rY (k6 _) WK (by rw[Qc,I7]);have l:=ahH d f o (w:=0) (by rw[aho d f g i];exact ahn d 0) G G D;rw[aho d f g i,<-p,W8 d (t:=0) (Ht.one D) D,h,mO]at l;have:∀k,so 1 k=1:=λk=>by
  induction k with
  |zero=>rfl
  |succ k s=>rw[so,s,nr]
 rw[this]at l;exact absurd l D
def auN(d:e9 m)(g:Ez m t a)(h:Ez m u b)(l:t<=10000000)(o:u<=10000000){i}(f:i<=100):lx (b9 (kD a b) m i)=lx (b9 a m i)+lx (b9 b m i):=by
 have p:=AG d g G f;have s:=AG d h G f;refine Qb d (AG d (g.add h) G f) ?_ ?_
 .have:=zW (lx<|b9 a m i)<|lx<|b9 b m i;omega
 .have k:=wW d (kD a b) i;rw[Vz,Rx.mul_add]at k;exact np k<|n5<|N3 (wW d a i)<|wW d b i
def ahK(d:e9 m)(f:Ez m t a)(g:Ez m u b)(i:t<=10000000)(k:u<=10000000):∀n,n<=100->eF (kD a b) m n=eF a m n+eF b m n
 |0,_=>(nl _).symm
 |n+1,h=>by
  have l:lx (b9 (kD a b) m n) n=(lx (b9 a m n)+lx (b9 b m n)) n:=by rw[auN d f g i k G]
  rw[eo,fj,fj,fj]at l;rw[eF,eF,eF,l,ahK d f g i k n G];grind
def Ez.F4{d}(f:Ez m t a)(g:Ht (2^u) (K d)):Ez m (t+u) (jd d a):=⟨f.1.F4 g,wg (aup d a) f.2⟩
def auO(f:e9 m){d}(g:Ez m t a)(l:Ht (2^u) (K d))(p:t<=10000000)(s:u<=10000000){i}(h:i<=100):lx (b9 (jd d a) m i)=K d*lx (b9 a m i):=by
 have v:=AG f g G h;refine Qb f (AG f (g.F4 l) G h) ?_ ?_
 .have:=szK d<|lx<|b9 a m i;omega
 .have k:=wW f (jd d a) i;have o:=oD (n6 (lx m)<|K d)<|wW f a i;rw[JO,(fq:X i*(K d*lx a)=K d*(X i*lx a))]at k;exact np k<|n5 o
def ahL(f:e9 m){d:N}(g:Ez m t a)(i:Ht (2^u) (K d))(k:t<=10000000)(l:u<=10000000):∀n,n<=100->eF (jd d a) m n=d*eF a m n
 |0,_=>(dY _).symm
 |n+1,h=>by
  have o:lx (b9 (jd d a) m n) n=(K d*lx (b9 a m n)) n:=by rw[auO f g i k l G]
  rw[dZ,fj,fj]at o;rw[eF,eF,o,ahL f g i k l n G,I5]
def ahM(f:e9 m){d:N}(g:Ht (2^t) (K d))(i:t<=100000000):∀n,n<=Z m-1->eF (iC d) m n=((n:Y):N)*d
 |0,_=>by rw[eF];show(0:N)=((0:Y):N)*d;rw[OZ,mO]
 |n+1,h=>by
  have k:lx (b9 (iC d) m n) n=(K d*X n) n:=by rw[ahJ f g i G]
  rw[dZ,rX,q J,fj,nr]at k;rw[eF,k,ahM f g i n G,(G:((n+1:V):Y)=(n:Y)+1),Oe];show _=(((n:Y):N)+1)*d;grind
end
def ahN{d L:V}:∀(n:V)(a:E (E N))(v:N),C' d n L a v->Ht (2^(d*(L*256))) (K<|NR n a v)
 |0,_,_,H=>H.hv
 |n+1,a,v,H=>by
  cases b:mi a (n+1) (n+1)with
  |none=>rw[WV b,nj];exact Ht.zero<|km D
  |some k=>rw[WW b];exact ahN n _ _<|H.step b
section
variable{m a:E N}{t:V}
def auP(d:e9 m)(k:Ez m t a)(n:t<=10000):C' (Z m-1) (Z m-1) (t+101) (dL a m<|Z m-1) 1/\tr (Z m-1) (Z m-1) (t+100) (dL a m<|Z m-1):=by
 have o:=d.l5;have p:=d.l2;have f:=wT d k G;have b:Z (dL a m<|Z m-1)=Z m-1:=by rw[dL,cT,rV]
 have g:tr (Z m-1) (Z m-1) (t+100) (dL a m<|Z m-1):=by
  refine⟨b,λi=>?_,λi l=>?_⟩
  .by_cases h:i<Z m-1
   .rw[Gt h];exact(f i G).1.le (aT _) G
   .rw[aN,jS G];exact Pz.nil _ _
  .rw[Gt l];have:=(f i G).2;omega
 exact⟨⟨aT _,G,⟨t+100,by rw[kg,oC,oW];omega,g⟩,by rw[kg,qf];exact Ht.one D⟩,g⟩
def Qd(b:e9 m)(d:Ez m t a)(f:t<=10000):ao c 22 [S .q a,S .q m] (aQ<|mV a m)/\QS 1000000 (mV a m):=by have k:=b.l5;let ⟨i,h2⟩:=auP b d f;have e:=ahC G _ _ _ 1 (aT _) h2;rw[qL]at e;have g:=auv b d f;have h:=ahN _ _ _ i;rw[e]at g h;refine⟨g,h.Az ?_⟩;have:=l0 (G:Z m-1<=4)<|et 256 (G:t+101<=10101);omega
def Kq(b:e9 m)(d:Ez m t a)(k:t<=10000):ao c 24 [S .q a,S .q m] (aQ<|eF a m<|Z m-1)/\QS 100000 (eF a m<|Z m-1):=by have l:=b.l5;have h:=WU (s:=1000) (λi f=>(wT b d G i f).1.qs G i) (Z m-1) G;have g:2^(Z m-1)<=16:=b6 (eZ D (G:Z m-1<=4)) D;exact⟨aus b d G,h.le<|by have:=et (1000+2) g;omega⟩
end
def ahO{a:N}{t:V}(b:Ht (2^t) (K a)):∀n,Ht (2^(n*t)) (K<|so a n)
 |0=>Ht.one<|km D
 |n+1=>by have:=(ahO b n).WZ b;rw[<-ku]at this;rw[so,gy,iG];exact this
def auQ a(n:V){t}(d:Ht (2^t) (K a))(f:t<=10000)(g:n<=100):ao c 45 [aQ a,O n] (aQ<|so a n):=by
 refine aL Tryz.func45 ?_;refine e J<|R<|rc J J (zC 1 D D)<|z J ?_;refine nX ⟨[(4,.c<|.P 1000 0),(5,.c<|.P 1001000 0)],[(1000,.box 44 0 zR),(1001000,.box 44 0<|av .q<|so a n)],20,[]⟩ ?_<|λb=>?_
 .exact e J<|c7 J
 refine e J<|az<|bq (α:=V) (λi=>⟨[(1,O n),(2,.c<|.P 0 0),(4,.c<|.P 1000 0),(5,.c<|.P 1001000 0),(6,O i)],[(0,.box 44 0<|av .q a),(1000,.box 44 0 zR),(1001000,.box 44 0<|av .q<|so a i)],3,[]⟩) (λi=>i<=n) (λi=>n-i) 0 (bf _) aV ?_;intro i l;have m:=l0 l f;have o:=et 10000 g;refine j<|e J<|F J (λh=>?_)<|λh=>?_
 .have h:i<n:=by have h:(i:Y)<(n:Y):=aW h;omega
  have p:=CQ (k:=1000000) (so a i) a ((ahO d i).Az G) (d.Az G) D;exact aE<|j<|az<|cK<|rc J J p<|z J<|bL<|rt J<|a4 (i+1) h OW aV
 .have h:i=n:=by have h:¬(i:Y)<(n:Y):=bc h;omega
  subst h;exact bt<|fJ b aV
def auR{b}(a:mR b):Ht (2^192) (K<|oG b):=ag9 (VK a) (aha (aeQ a) D)<|aha (aeR a) D
def auS k(H:E Y)(p w:E (Y×Y×Y)) o(hk:0<=k/\k<=255)(L:∀x∈H,-128<=x/\x<=127)(h0:∀x∈p,mR x)(h1:∀x∈w,mR x)(hz:mR o):
  ao c 6 [.a [.I .u8 k,.S I8 H],.a [.S RW p,.S RW w],.a [.I .i8 o.1,.I .i8 o.2.1,.I .u8 o.2.2]] (cB ae):=by
 let ⟨m,hm,hF⟩:=ats k H hk L
 have e0:=ag0 hm.l2 hm.l5 p h0
 have e1:=ag0 hm.l2 hm.l5 w h1
 have d:Ez m 32 (wK p<|Z m-2):=ahb hm h0
 have g:Ez m 32 (wK w<|Z m-2):=ahb hm h1
 have ez:=aeS o hz
 have l:=auR hz
 generalize wK p (Z m-2)=a at*
 generalize wK w (Z m-2)=b at*
 generalize oG o=f at*
 have h2:=hm.l2
 have h5:=hm.l5
 let ⟨nA,O⟩:=Qd hm d D
 let ⟨nB,U⟩:=Qd hm g D
 let ⟨tA,C⟩:=Kq hm d D
 let ⟨tB,rB⟩:=Kq hm g D
 have B:=Ez.mul hm d g D
 let ⟨_,_,_,K⟩:=ahc hm (P3 d.1) (P3 g.1) d.2 g.2 D
 let ⟨P,Q⟩:=Qd hm B D
 have eN:=ahH hm d g B D D D
 have T:=CQ _ _ O U D
 have sN:=FZ (mV (fm a b m) m) (mV a m*mV b m) Q D
 rw[qB eN]at sN
 have W:=d.1.Jt g.1 (k:=10) D D D D D
 let ⟨tS,rS⟩:=Kq hm (d.add g) D
 have eS:=ahK hm d g D D (Z m-1) G
 have X:=aen _ _ C rB D
 have sT:=FZ (eF (kD a b) m<|Z m-1) (eF a m (Z m-1)+eF b m (Z m-1)) rS D
 rw[qB eS]at sT
 have q:QS 10 f:=l.Az D
 have cC:=O9 f a (by have:=d.1.len;omega) q (λi=>d.1.qs D i) D
 let ⟨tC,rC⟩:=Kq hm (d.F4 l) D
 have eC:=ahL hm d l D D (Z m-1) G
 have r:=CQ f _ (q.le (D:10<=100000)) C D
 have sC:=FZ (eF (jd f a) m<|Z m-1) (f*eF a m (Z m-1)) rC D
 rw[qB eC]at sC
 have zc:=ahI hm l
 have cn:=VE f
 let ⟨nC,qC⟩:=Qd hm zc D
 have y:=W8 hm l D
 have pC:=auQ f (Z m-1) l D G
 have sP:=FZ (mV (iC f) m) (so f<|Z m-1) qC D
 rw[qB y]at sP
 let ⟨tD,rD⟩:=Kq hm zc D
 have eD:=ahM hm l D (Z m-1)<|aT _
 have wn:=zC ((Z m-1:V):Y) G G
 have mD:=CQ (k:=10) ((((Z m-1:V):Y)):N) f ((aul (z:=((Z m-1:V):Y)) (a:=3) G).Az D) q D
 have A:=FZ (eF (iC f) m<|Z m-1) ((((Z m-1:V):Y):N)*f) rD D
 rw[qB eD]at A
 have en:((Z m:Y)-1)=((Z m-1:V):Y):=G
 rw[<-en]at pC wn mD A
 have vA:=JM _ O D
 have vB:=JM _ U D
 have wA:=JM _ C D
 have wB:=JM _ rB D
 have gA:=M7<|mV a m
 have n:(eV (mV a m).num==0)=((Z a:Y)==0):=by
  by_cases a0:a=[]
  .subst a0;rw[auL hm];rfl
  .have M:=auM hm d a0 D D;have hl:=cR.2 a0;have h3:eV (mV a m).num≠0:=λcz=>M (yh<|u7.1 cz)
   rw[beq_eq_false_iff_ne.2 h3,beq_eq_false_iff_ne.2 (G:(Z a:Y)≠0)]
 generalize mV a m=u at*
 generalize mV b m=v at*
 generalize eF a m (Z m-1)=s at*
 generalize eF b m (Z m-1)=t at*
 refine aL Tryz.func6 ?_
 refine e J<|bH J J auk J<|j<|e J<|F J (λh=>fR)<|λ_=>aE ?_
 refine R<|rc J J hF<|z J<|e J ?_ (hp:=aF)
 refine R<|rc J J e0<|z J<|R<|rc J J e1<|z J ?_
 refine R<|rc J J ez<|z J ?_
 refine R<|rc J J nA<|z J<|R<|rc J J nB<|z J ?_
 refine R<|rc J J tA<|z J<|R<|rc J J tB<|z J<|j ?_
 refine R<|rc J J vA<|rg 50 J J (λh=>fR)<|λ_=>?_
 refine gO J J J J J vB<|rg 55 J J (λh=>fR)<|λ_=>?_
 refine gO J J J J J wA<|rg 60 J J (λh=>fR)<|λ_=>?_
 refine gO J J J J J wB<|rg 65 J J (λh=>fR)<|λ_=>?_
 refine gO J J J J J gA<|z J<|F J (λh=>?_)<|λ_=>aE<|j ?_
 .have h:((eV u.num==0) !=((Z a:Y)==0))=ae:=h;rw[n]at h;simp at h
 refine R<|rc J J K<|rc J J P<|rc J J T<|rc J J sN<|rg 85 J J (λh=>fR)<|λ_=>?_
 refine gO J J J J J W<|gO J J J J J tS<|gO J J J J J X<|gO J J J J J sT<|rg 97 J J (λh=>fR)<|λ_=>?_
 refine gO J J J J J cC<|gO J J J J J tC<|gO J J J J J r<|gO J J J J J sC<|z J<|F J (λh=>fR)<|λ_=>aE ?_
 refine R<|rg 110 J J (λ_=>?_)<|λh=>fR
 refine gO J J J J J cn<|gO J J J J J nC<|gO J J J J J pC<|gO J J J J J sP<|rg 120 J J (λ_=>?_)<|λh=>fR
 exact gO J J J J J cn<|gO J J J J J tD<|gO J J J J J wn<|gO J J J J J mD<|gO J J J J J A<|z J<|c7 J
end Go.El
