/- Contracts: monomials of the reference. Own work; no condition. -/
import Derived.Test.YtceihkmakfdcnaaGreatD14
import Derived.Test.YtceihkmakfdcnaaGreatDS9
import Derived.Test.YtceihkmakfdcnaaGreatD15
import Derived.Test.YtceihkmakfdcnaaGreatD9
import Derived.Test.YtceihkmakfdcnaaGreatDS10
import Derived.Test.YtceihkmakfdcnaaGreatD13
set_option linter.all false
set_option maxHeartbeats 16000000
set_option maxRecDepth 100000
open Bool renaming true->ae,false->ah
open Go.El renaming cS->I,rr->N,re->z,du->j,jd->r,cI->R,rb->F
open Go.Proofs.Tryz renaming prog->q
open Int renaming natAbs->aC,toNat->af
open List renaming length->Z,getD->E,take->c,range->bX,replicate->bc
open Nat renaming ble->dP
open _root_ renaming List->V,Rat->e,Nat->Y,Int->G
namespace Go.El
open Go Go.Proofs
def AA{f:Type}{p:f->Prop}{l}{i}{d}(g:∀x∈l,p x)(a:i<Z l):p (E l i d):=by rw[aK,cO a];exact g _<|sF a
open Rx
def Ez(m:V e)(t:Y)(a:V e):Prop:=Pz 4 t a/\Z a<Z m
def AB{t}{x}(a:Pz 4 t x):Pz 12 t x:=a.le D<|aO _
def Ez.le{m}{t u}{a}(d:Ez m t a)(k:t<=u):Ez m u a:=⟨d.1.le (aO _) k,d.2⟩
def Ez.mul{m a d}{t u}(i:df m)(f:Ez m t a)(g:Ez m u d)(k:t+u+200<3200000000000):Ez m (t+u+28) (fm a d m):=by let ⟨l,h2,_,_⟩:=Wa i (AB f.1) (AB g.1) f.2 g.2 k;exact⟨l,h2⟩
def aua{z}{a}(d:aC z<=2^a):Ht (2^a) (K (z:e)):=⟨1,D,VR,λi=>by
 rw[mj];split
 .exact⟨z,d,by rw[show(((1:G)):e)=1 from J,rZ]⟩
 .exact⟨0,aY _,fH _⟩⟩
def ag9{m a f}{t u}(g:df m)(i:Ez m t a)(k:Ez m u f)(o:t<=400000000000)(l:u<=400000000000):r q 20 [I .q a,I .q f,I .q m] (I .q<|fm a f m):=by have h:=i.1.Px k.1 (K:=100000000000) D D O D;have n:=i.1.mul k.1 D;have E:=n.zJ g.pz g.ne (d:=8) (s:=50000000000) (by have:=n.len;omega) D D O;have l:=NA (s:=50000000000) D D (zI a f) g.ne E;refine aI Tryz.func20 ?_;exact N J<|F<|rc J J h<|rc J J l<|z J<|cw J
abbrev LQ:ET:= .sl .q
def ag'(l:V (V e))(i:Y):r q 149 [I LQ l,R i] (I .q<|l.getD i []):=by
 refine aI Tryz.func149 ?_;refine N J<|j<|N J<|al J (λh=>?_)<|λh=>aD ?_
 .have h:i<Z l:=by have h:(i:G)<(Z l:G):=aU h;omega
  refine N J (bL<|cK<|eJ J ?_) (hp:=aF);rw[bY]
 .have h:¬i<Z l:=by have h:¬(i:G)<(Z l:G):=a6 h;omega
  refine N J<|bL<|ig cv J ?_;rw[aK,iX O];exact bl.nil _
def lA(l:V (V e)):Y->Y
 |0=>0
 |n+1=>if l.getD n []=[]then lA l n else n+1
def jQ(l:V (V e)):V (V e):=c (lA l<|Z l) l
def Wf(l:V (V e)):∀n,lA l n<=n
 |0=>aO _
 |n+1=>by
  unfold lA;split
  .have:=Wf l n;omega
  .exact aO _
def Wg(l:V (V Rat))(i:Z l<=1000):r q 98 [I LQ l] (I LQ<|jQ l):=by
 refine aI Tryz.func98 ?_;refine N J<|N J ?_;refine jH ⟨[(0,I LQ l),(3,R<|lA l<|Z l)],[],10,[]⟩ ?_<|λd=>?_
 .have:=Wf l<|Z l;refine N J (bU J ?_) (hp:=aF);rw[bY];rfl
 refine au<|a8 (α:=Y) (λn=>⟨[(0,I LQ l),(3,R n)],[],4,[]⟩) (λn=>n<=Z l/\lA l n=lA l (Z l)) (λn=>n) (Z l) ⟨aO _,J⟩ aM ?_;rintro n ⟨m,he⟩;refine j<|F<|rg 8 J J (λa=>?_)<|λa=>?_
 .have a:0<n:=by have a:(n:G)>0:=aU a;omega
  have o:af ((n:G)-1)=n-1:=O;obtain⟨k,rfl⟩:∃k,n=k+1:=⟨n-1,O⟩;have g:af (((k+1:Y):G)-1)=k:=O;refine z J (al J (λh2=>?_)<|λh2=>?_) (hp:=aF)
  .have h2:((l.getD (af<|(((k+1:Y):G)-1)) []).length:G)=0:=eq_of_beq h2;rw[g]at h2;have f:l.getD k []=[]:=eT O;refine aD (au<|rt J (eE<|aT k ⟨O,?_⟩ (O:k<k+1)<|wk ⟨sR J,sE J ?_,h⟩ h) (hp:=aF))
   .rw[<-he,lA,b f]
   .exact be R O
  .have h2:((l.getD (af<|(((k+1:Y):G)-1)) []).length:G)≠0:=ne_of_beq_false h2;rw[g]at h2;have f:l.getD k []≠[]:=λe=>h2 sJ
   refine a7<|dB d<|wk ⟨sR J,sE J ?_,h⟩ h;rw[<-he,lA,w f]
 .have a:n=0:=by have a:¬(n:G)>0:=a6 a;omega
  subst a;refine z J<|al J (λh2=>mM)<|λ_=>?_;refine a7<|dB d<|wk ⟨sR J,sE J ?_,h⟩ h;rw[<-he];rfl
def jw(a m:V e)(l:V (V e)):V (V e):=jQ<|l.map λx=>fm a x m
def PD{m a}{t u}(o:df m)(p:Ez m t a){l:V (V e)}(s:∀x∈l,Ez m u x)(v:t<=400000000000)(y:u<=400000000000)(H:Z l<=1000):r q 52 [I .q a,I LQ l,I .q m] (I LQ<|jw a m l):=by
 refine aI Tryz.func52 ?_;have A:=Wg (l.map λx=>fm a x m) (by rw[cy];omega);refine N J<|F<|fT LQ [] J J (z J ?_);refine jH ⟨[(7,.c<|.X 1000000)],[(1000000,.vec 29 LQ<|l.map λx=>fm a x m)],10,[]⟩ ?_<|λk=>?_
 .exact cY 1000000 J J J<|bt J J A J<|cw J
 refine N J<|au<|a8 (α:=Y) (λi=>⟨[(0,I .q a),(1,I LQ l),(2,I .q m),(7,.c<|.X 1000000),(8,R i)],[(1000000,.vec 29 LQ<|(c i l).map λx=>fm a x m)],3,[]⟩) (λi=>i<=Z l) (λi=>Z l-i) 0 (aY _) aM ?_;intro i C;refine j<|N J<|al J (λf=>?_)<|λf=>?_
 .have f:i<Z l:=by have f:(i:G)<(Z l:G):=aU f;omega
  have g:=Cb (λx=>fm a x m) [] l i f;have B:=AA (d:=([]:V e)) s f;have n:=ag9 o p B v y;rw[(JP:l.getD i []=E l (af (i:G)) LQ.dE)]at n g;refine aD<|j<|au<|cu<|rc J J n (rl LQ [fm a (E l (af (i:G)) LQ.dE) m] J J (ra J J J J J J J J J ?_ ?_<|z J<|bw<|rt J<|aT (i+1) f wm<|Wk.trans (wk (st':=⟨[(0,I .q a),(1,I LQ l),(2,I .q m),(7,.c<|.X 4009000),(8,R ((i+1:Y):G))],[(4009000,.vec 29 LQ<|(c (i+1) l).map λx=>fm a x m)],7,[]⟩) ⟨sR J,sR J,sR J,sR J,sE J ?_,h⟩ ⟨bE J ?_,h⟩)<|Wk.trans (fU 1000000 4009000 J J J) aM)) (hp:=aF)
  .show(_+1+(_+1)/4+192)*24<=_;simp only[cy,eL];omega
  .show(_+1)*1<=_;simp only[cy,eL];omega
  .rfl
  .rw[g]
 .have f:i=Z l:=by have f:¬(i:G)<(Z l:G):=a6 f;omega
  subst f;exact a7<|dB k<|wk ⟨sR J,h⟩ ⟨⟨_,J,mF.of_eq<|by rw[fR]⟩,h⟩
def wO(a d:V (V e)):V (V e):=jQ<|(bX<|max (Z a)<|Z d).map λi=>fQ (a.getD i [])<|d.getD i []
def aha(a d:Y):(if(d:G)>(a:G)then(d:G)else(a:G))=((max a d:Y):G):=by split<;>omega
def ahb{m}{t}{a f:V (V e)}(p:∀x∈a,Ez m t x)(s:∀x∈f,Ez m t x)(A:t<=1000000000000)(B:Z a<=1000)(H:Z f<=1000):r q 99 [I LQ a,I LQ f] (I LQ<|wO a f):=by
 refine aI Tryz.func99 ?_;have v:=Wg ((bX<|max (Z a)<|Z f).map λi=>fQ (a.getD i [])<|f.getD i []) (by rw[cy,mQ];omega);have n:∀{l:V (V e)},(∀x∈l,Ez m t x)->∀i,Pz 4 t (l.getD i []):=λ{l} g i=>by
  by_cases u:i<Z l
  .exact(AA (d:=([]:V e)) g u).1
  .rw[aK,iX O];exact Pz.nil _ _
 refine N J<|F<|fT LQ [] J J (z J ?_);refine jH ⟨[(5,.c<|.X 1000000)],[(1000000,.vec 29 LQ<|(bX<|max (Z a)<|Z f).map λi=>fQ (a.getD i [])<|f.getD i [])],10,[]⟩ ?_<|λo=>?_
 .exact cY 1000000 J J J<|bt J J v J<|cw J
 refine N J<|au<|a8 (α:=Y) (λi=>⟨[(0,I LQ a),(1,I LQ f),(5,.c<|.X 1000000),(6,R i)],[(1000000,.vec 29 LQ<|(bX i).map λi=>fQ (a.getD i [])<|f.getD i [])],3,[]⟩) (λi=>i<=max (Z a) (Z f)) (λi=>max (Z a) (Z f)-i) 0 (aY _) aM ?_;intro i u;refine j<|N J<|al J (λg=>?_)<|λg=>?_
 .have g:i<max (Z a) (Z f):=by have g:(i:G)<(if(Z f:G)>(Z a:G)then(Z f:G)else(Z a:G)):=aU g;rw[aha]at g;omega
  have y:=Tv (k:=100000000000) (a.getD i []) (f.getD i []) (by have:=(n p i).len;omega) (by have:=(n s i).len;omega) ((n p i).qs O) ((n s i).qs O) D D;refine aD<|j<|au<|cu<|rc J J (ag' a i)<|rc J J (ag' f i)<|rc J J y<|rl LQ [fQ (a.getD i []) (f.getD i [])] J J (ra J J J J J J J J J ?_ ?_<|z J<|bw<|rt J<|aT (i+1) g (O:max (Z a) (Z f)-(i+1)<max (Z a) (Z f)-i)<|Wk.trans (wk (st':=⟨[(0,I LQ a),(1,I LQ f),(5,.c<|.X 4009000),(6,R ((i+1:Y):G))],[(4009000,.vec 29 LQ<|(bX<|i+1).map λi=>fQ (a.getD i [])<|f.getD i [])],7,[]⟩) ⟨sR J,sR J,sR J,sE J ?_,h⟩ ⟨bE J ?_,h⟩)<|Wk.trans (fU 1000000 4009000 J J J) aM)
  .show(_+1+(_+1)/4+192)*24<=_;simp only[cy,mQ];omega
  .show(_+1)*1<=_;simp only[cy,mQ];omega
  .rfl
  .rw[yx,fM];rfl
 .have g:i=max (Z a) (Z f):=by have g:¬(i:G)<(if(Z f:G)>(Z a:G)then(Z f:G)else(Z a:G)):=a6 g;rw[aha]at g;omega
  subst g;exact a7<|dB o aM
def ahc(l:V (V e))(n:Y)(a:Z l<=1000)(d:n<=1000):r q 100 [I LQ l,R n] (I LQ<|bc n []++l):=by
 refine aI Tryz.func100 ?_;refine N J<|F<|rm LQ n J J J J J J (λg=>YK .q g) J ?_ ?_<|z J ?_
 .show n*24<=_;omega
 .show n*1<=_;omega
 refine F<|ra J J J J J J J J J ?_ ?_<|z J ?_
 .show(_+_+(_+_)/4+192)*24<=_;simp only[fo];omega
 .show(_+_)*1<=_;simp only[fo];omega
 exact cY 2002000 J J J<|cw J
def aub{m}{t}{a:V (V Rat)}(s:∀x∈a,Ez m t x)(g:V (V Rat))(o:t<=1000000000)(A:Z a<=1000):r q 51 [I LQ a,I LQ g] (cB<|decide<|a=g):=by
 refine aI Tryz.func51 ?_;refine N J<|j<|N J<|al J (λh=>?_)<|λh=>aD ?_
 .have h:=xA h;refine N J<|bL<|cK<|eJ J<|be cB ?_;rw[nr (λe=>h rW)]
 .have h:=vX h;have u:Z a=Z g:=O;refine j<|N J<|au<|a8 (α:=Y) (λi=>⟨[(0,I LQ a),(1,I LQ g),(5,R i)],[],4,[]⟩) (λi=>i<=Z a/\∀n,n<i->a.getD n []=g.getD n []) (λi=>Z a-i) 0 ⟨aY _,λn p=>absurd p<|vH _⟩ aM ?_;rintro i ⟨B,ht⟩;refine j (N J<|al J (λl=>?_)<|λl=>?_)
  .have l:i<Z a:=by have l:(i:G)<(Z a:G):=aU l;omega
   have v:af ((i:G))=i:=bY i;have y:r q 16 [I .q (a.getD (af<|(i:G)) []),I .q<|g.getD (af<|(i:G)) []] (cB<|decide<|a.getD i []=g.getD i []):=by rw[v];exact(AA (d:=([]:V Rat)) s l).1.agT (k:=100000000) _ D O D
   refine aD<|j<|au<|F<|rc J J y (z J<|al J (λf=>?_)<|λf=>cP<|bw ?_) (hp:=aF)
   .have f:a.getD i []≠g.getD i []:=λe=>by have f:(!decide (a.getD i []=g.getD i []))=ae:=f;rw[o9 e]at f;cases f
    refine N J<|bL ?_;repeat(first|refine cK ?_|refine kX ?_|refine lI ?_)
    refine eJ J<|be cB ?_;rw[nr (λe=>f rW)]
   .have f:a.getD i []=g.getD i []:=by
     have f:(!decide (a.getD i []=g.getD i []))=ah:=f;by_cases e:a.getD i []=g.getD i []
     .exact e
     .rw[nr e]at f;cases f
    refine rt J<|aT (i+1) ⟨l,λn p=>?_⟩ nS aM;by_cases e:n=i
    .rw[e];exact f
    .exact ht n O
  .have l:i=Z a:=by have l:¬(i:G)<(Z a:G):=a6 l;omega
   subst l;refine a7<|aL<|N J<|bU J<|be cB ?_;refine(o9<|rF u λn o l=>?_).symm;have:=ht n o;rwa[aK,aK,cO o,cO l]at this
def C4(x:V (V<|G×G×G))(k:Y)(m:V e):V (V e):=jQ<|(c k x).map λr=>oG r<|Z m-2
def Wh{m:V Rat}(o:2<=Z m)(p:Z m<=5)(x:V (V<|G×G×G))(s:∀a∈x,∀y∈a,lj y)(k:Y)(v:k<=100):r q 47 [I (.sl RW) x,R k,I .q m] (I LQ<|C4 x k m):=by
 refine aI Tryz.func47 ?_;have t:=Wg ((c k x).map λa=>oG a<|Z m-2) zN;refine N J<|F<|fT LQ [] J J (z J ?_);refine jH ⟨[(7,.c<|.X 1000000)],[(1000000,.vec 29 LQ<|(c k x).map λa=>oG a<|Z m-2)],10,[]⟩ ?_<|λl=>?_
 .exact cY 1000000 J J J<|bt J J t J<|cw J
 refine N J<|au<|a8 (α:=Y) (λi=>⟨[(0,I (.sl RW) x),(1,R k),(2,I .q m),(7,.c<|.X 1000000),(8,R i)],[(1000000,.vec 29 LQ<|(c i x).map λa=>oG a<|Z m-2)],3,[]⟩) (λi=>i<=Z x/\i<=k) (λi=>Z x-i) 0 ⟨aY _,aY _⟩ aM ?_;rintro i ⟨A,u⟩;refine j<|F<|rg 14 J J (λf=>?_)<|λf=>?_
 .have f:i<Z x:=by have f:(i:G)<(Z x:G):=aU f;omega
  refine z J<|al J (λh2=>?_)<|λh2=>?_
  .have h2:i<k:=by have h2:(i:G)<(k:G):=aU h2;omega
   have g:=Cb (λa=>oG a<|Z m-2) [] x i f;have n:=agq o p (x.getD i [])<|AA (d:=([]:V (G×G×G))) s f;rw[(JP:x.getD i []=E x (af (i:G)) (ET.sl RW).dE)]at n g;refine aD<|j<|au<|cu<|rc J J n (rl LQ [oG (E x (af (i:G)) (ET.sl RW).dE) (Z m-2)] J J (ra J J J J J J J J J ?_ ?_<|z J<|bw<|rt J<|aT (i+1) ⟨f,h2⟩ (O:Z x-(i+1)<Z x-i)<|Wk.trans (wk (st':=⟨[(0,I (.sl RW) x),(1,R k),(2,I .q m),(7,.c<|.X 4008000),(8,R ((i+1:Y):G))],[(4008000,.vec 29 LQ<|(c (i+1) x).map λa=>oG a<|Z m-2)],7,[]⟩) ⟨sR J,sR J,sR J,sR J,sE J ?_,h⟩ ⟨bE J ?_,h⟩)<|Wk.trans (fU 1000000 4008000 J J J) aM)) (hp:=aF)
   .show(_+1+(_+1)/4+192)*24<=_;simp only[cy,eL];omega
   .show(_+1)*1<=_;simp only[cy,eL];omega
   .rfl
   .rw[g]
  .have h2:i=k:=by have h2:¬(i:G)<(k:G):=a6 h2;omega
   subst h2;exact a7<|dB l aM
 .have f:i=Z x:=by have f:¬(i:G)<(Z x:G):=a6 f;omega
  refine z J<|al J (λh2=>mM)<|λ_=>?_;have e:c i x=c k x:=by rw[iY O,iY O]
  exact a7<|dB l<|wk ⟨sR J,h⟩ ⟨⟨_,J,mF.of_eq rW⟩,h⟩
def PE{l}{x}(a:x∈jQ l):x∈l:=vi a
def PF l:Z (jQ l)<=Z l:=by unfold jQ;rw[eL];omega
def Ez.nil{m}(a:df m) t:Ez m t []:=⟨Pz.nil _ _,by have:=a.l2;show 0<_;omega⟩
def Ez.getD{m}(a:df m){t}{l:V (V e)}(f:∀x∈l,Ez m t x) i:Ez m t (l.getD i []):=by
 by_cases g:i<Z l
 .exact AA (d:=([]:V e)) f g
 .rw[aK,iX O];exact Ez.nil a t
def Ez.sub{m a d}{t u}(f:Ez m t a)(g:Ez m u d):Ez m (t+u+1) (fQ a d):=by
 refine⟨(f.1.sub g.1).le D<|aO _,vW (qN _) ?_⟩;rw[cy,mQ];have i:=f.2;have k:=g.2;have:Z (eF ((-1:G):e) d)<=Z d:=by refine bm (qN _) ?_;rw[cy,mQ];exact aO _
 omega
def Ez.neg{m a}{t}(d:Ez m t a):Ez m t (eF ((-1:G):e) a):=by refine⟨(d.1.qP (u:=0)<|aua (z:= -1) D).le (aO _)<|aO _,vW (qN _) ?_⟩;rw[cy,mQ];exact d.2
def PG{m a}{t u}(d:df m)(f:Ez m t a){l}(g:∀x∈l,Ez m u x)(i:t+u+200<3200000000000):∀x∈jw a m l,Ez m (t+u+28) x:=λx k=>by obtain⟨y,n,rfl⟩:=iJ.1<|PE k;exact f.mul d (g y n) i
def J4 a m l:Z (jw a m l)<=Z l:=by have:=PF<|l.map λx=>fm a x m;rwa[cy]at this
def ahd{m}{t u}(d:df m){a f}(g:∀x∈a,Ez m t x)(k:∀x∈f,Ez m u x):∀x∈wO a f,Ez m (t+u+1) x:=λx l=>by obtain⟨i,_,rfl⟩:=iJ.1<|PE l;exact(Ez.getD d g i).sub<|Ez.getD d k i
def ahe a d:Z (wO a d)<=max (Z a) (Z d):=by have:=PF<|(bX<|max (Z a)<|Z d).map λi=>fQ (a.getD i [])<|d.getD i [];rwa[cy,mQ]at this
def Wi{m}(a:df m){t}{l}(d:∀x∈l,Ez m t x) n:∀x∈bc n []++l,Ez m t x:=λx f=>by
 rcases bg.1 f with h|h
 .rw[(List.mem_replicate.1 h).2];exact Ez.nil a t
 .exact d x h
def oL(x y:V (V e))(m:V e):Y->V (V e)
 |0=>[]
 |i+1=>wO (oL x y m i)<|bc i []++jw (eF ((-1:G):e)<|x.getD i []) m y
def PH{m:V e}{t u:Y}(d:df m){x y:V (V e)}(g:∀a∈x,Ez m t a)(k:∀a∈y,Ez m u a)(l:t+u+200<3200000000000):∀i,∀a∈oL x y m i,Ez m (i*(t+u+29)) a
 |0,a,f=>by cases f
 |i+1,a,f=>by have n:=ahd d (PH d g k l i) (Wi d (PG d (Ez.getD d g i).neg k l) i) a f;refine n.le ?_;rw[gO,jn];omega
def ahf(x y:V (V e))(m:V e):∀i,Z (oL x y m i)<=i+Z y
 |0=>aY _
 |i+1=>by have a:=ahe (oL x y m i)<|bc i []++jw (eF ((-1:G):e)<|x.getD i []) m y;have d:=ahf x y m i;have f:=J4 (eF ((-1:G):e)<|x.getD i []) m y;rw[iq,fo]at a;show Z (wO _ _)<=_;omega
def ahg{m}{t u}(f:df m){x y:V (V e)}(p:∀d∈x,Ez m t d)(g:∀d∈y,Ez m u d)(H:t<=10000)(L:u<=10000)(s:Z x<=40)(M:Z y<=40):r q 48 [I LQ x,I LQ y,I .q m] (I LQ<|oL x y m<|Z x):=by
 refine aI Tryz.func48 ?_;refine N J<|F<|rl LQ [] J J (z J ?_);refine j<|N J<|au<|a8 (α:=Y) (λi=>⟨[(0,I LQ x),(1,I LQ y),(2,I .q m),(7,I LQ<|oL x y m i),(8,R i)],[],4,[]⟩) (λi=>i<=Z x) (λi=>Z x-i) 0 (aY _) aM ?_;intro i K;refine j<|N J<|al J (λh=>?_)<|λh=>?_
 .have h:i<Z x:=by have h:(i:G)<(Z x:G):=aU h;omega
  have v:af ((i:G))=i:=bY i;have a:=Ez.getD f p i;have l:r q 43 [aQ ((-1:G):e),I .q<|x.getD (af<|(i:G)) []] (I .q<|eF ((-1:G):e)<|x.getD i []):=by rw[v];exact E9 (k:=1000) _ _ (by have:=a.1.len;omega) (QS.int D D) (a.1.qs O) D
  have A:=PD f a.neg g O O O;have P:=J4 (eF ((-1:G):e)<|x.getD i []) m y;have n:=ahc (jw (eF ((-1:G):e)<|x.getD i []) m y) i O O;have B:=Wi f (PG f a.neg g O) i;have zP:=PH f p g O i;have Q:i*(t+u+29)<=40*20029:=mL O O;have T:=ahf x y m i;have C:=ahb (t:=1000000) (λd o=>(zP d o).le O) (λd o=>(B d o).le O) D O SC;refine aD<|j<|au<|cu<|rc J J (zb (-1) D D)<|rc J J l (rc J J A<|rc J J n<|rc J J C<|z J<|bw<|rt J<|aT (i+1) h (O:Z x-(i+1)<Z x-i) aM) (hp:=aF)
 .have h:i=Z x:=by have h:¬(i:G)<(Z x:G):=a6 h;omega
  subst h;exact a7<|aL<|N J<|cw J
def auc{g k:Type}(f:g->k) d a{l}{i}(m:i<Z l):((c i l).map f++bc (Z l-i) a).set i (f<|E l i d)=(c (i+1) l).map f++bc (Z l-(i+1)) a:=by have n:Z ((c i l).map f)=i:=zN;rw[List.set_append,w O,n,lH,(O:Z l-i=(Z l-(i+1))+1),wP,L8,Cb f d l i m,l7];rfl
def AD(a:V (V e))(d m:V e):V (V e):=a.map λx=>fm x d m
def aud{m k}{t u}(B:df m){a:V (V e)}(H:∀L∈a,Ez m t L)(M:a≠[])(y:Ez m u k)(o:r q 14 [I .q (a.getD (Z a-1) []),I .q m] (.t [(ah,[.S .q k]),(ah,[.I .i64 0])]))(P:t+u+200<3200000000000)(Q:Z a<=1000):r q 101 [I LQ a,I .q m] (I LQ<|AD a k m):=by
 have K:=bQ.2 M;refine aI Tryz.func101 ?_;refine N J<|j<|N J<|al J (λf=>?_)<|λf=>aD ?_
 .have f:(Z a:G)=0:=eq_of_beq f;exact absurd f O
 have o:r q 14 [I .q (a.getD (af<|(Z a:G)-1) []),I .q m] (.t [(ah,[.S .q k]),(ah,[.I .i64 0])]):=by rw[(O:af ((Z a:G)-1)=Z a-1)];exact o
 refine F<|rc J J o (z J ?_) (hp:=aF);refine F<|rm LQ (Z a) J J J J J J (λg=>YK .q g) J ?_ ?_<|z J ?_
 .show Z a*24<=_;omega
 .show Z a*1<=_;omega
 refine jH ⟨[(7,.c<|.X 3002000)],[(3002000,.vec 29 LQ<|AD a k m)],12,[]⟩ ?_<|λp=>?_
 .exact cY 3002000 J J J<|N J<|cw J
 refine N J<|au<|a8 (α:=Y) (λi=>⟨[(0,I LQ a),(1,I .q m),(5,I .q k),(7,.c<|.X 3002000),(27,R<|Z a),(28,R i)],[(3002000,.vec 29 LQ<|(c i a).map (λx=>fm x k m)++bc (Z a-i) [])],6,[]⟩) (λi=>i<=Z a) (λi=>Z a-i) 0 (aY _) aM ?_;intro i o;refine N J<|j<|al J (λf=>?_)<|λf=>?_
 .have f:i<Z a:=by have f:(i:G)<(Z a:G):=aU f;omega
  have s:af ((i:G))=i:=bY i;have A:=AA (d:=([]:V e)) H f;have v:r q 19 [I .q (a.getD (af<|(i:G)) []),I .q k,I .q m] (I .q<|fm (a.getD i []) k m):=by rw[s];let ⟨_,_,_,C⟩:=Wa B (AB A.1) (AB y.1) A.2 y.2 P;exact C
  have l:=auc (λx=>fm x k m) [] [] f;have n:Z ((c i a).map (λx=>fm x k m)++bc (Z a-i) [])=Z a:=by rw[iq,cy,eL,fo];omega
  refine aD<|j<|au<|N J<|cu<|rc J J v (vO (T:=LQ) (fm (a.getD i []) k m) J J J J J ?_<|z J<|bw<|rt J<|aT (i+1) f nS<|wk (bO J) ⟨bE J ?_,h⟩) (hp:=aF)
  .rw[s,n];exact f
  .rw[s,l]
 .have f:i=Z a:=by have f:¬(i:G)<(Z a:G):=a6 f;omega
  subst f;exact a7<|dB p<|wk ⟨sR J,h⟩ ⟨⟨_,J,mF.of_eq<|by rw[fR,lH];simp[AD]⟩,h⟩
def jE(f:V (V e))(m:V e)(i n:Y)(a:V (V e)):Y->V (V e)
 |0=>a
 |d+1=>(jE f m i n a d).set (i-n+d)<|fQ (a.getD (i-n+d) [])<|fm (a.getD i []) (f.getD d []) m
def Ga(f:V (V e))(m:V e)(i n:Y)(a:V (V e)):∀d,Z (jE f m i n a d)=Z a
 |0=>rfl
 |d+1=>by rw[jE,ru,Ga f m i n a d]
def Wj(g:V (V e))(m:V e)(i n:Y)(f:V (V e)):∀d a,i-n+d<=a->(jE g m i n f d).getD a []=f.getD a []
 |0,_,_=>rfl
 |d+1,a,k=>by rw[jE,aK,RQ O,<-aK,Wj g m i n f d a O]
def nG(d:V (V e))(m:V e)(n:Y):Y->V (V e)->V (V e)
 |0,a=>a
 |k+1,a=>nG d m n k<|c (n+k)<|jE d m (n+k) n a n
def aue{d:Type}{p:d->Prop}{l:V d}{i}{x}(f:∀y∈l,p y)(g:p x):∀y∈l.set i x,p y:=λy k=>by
 rcases List.mem_or_eq_of_mem_set k with a|a
 .exact f y a
 .rw[a];exact g
def Wl{m:V e}{t u:Y}(d:df m){l o:V (V e)}(f:∀a∈o,Ez m t a)(p:∀a∈l,Ez m u a)(s:t+u+200<3200000000000)(i n:Y):∀g,∀a∈jE l m i n o g,Ez m (2*t+u+29) a
 |0,a,k=>(f a k).le O
 |g+1,a,k=>by refine aue (Wl d f p s i n g) ?_ a k;exact((Ez.getD d f _).sub<|(Ez.getD d f i).mul d (Ez.getD d p g) s).le O
def auf{m}{t u}(M:df m){a f:V (V Rat)}(ha:∀e∈a,Ez m t e)(hb:∀e∈f,Ez m u e)(b0:f≠[])(la:Z a<=100)(lb:Z f<=100)(hs:(t+u+29)*2^Z a<=1000000000000):r q 102 [I LQ a,I LQ f,I .q m] (I LQ<|jQ<|nG f m (Z f-1) (Z a-(Z f-1)) a):=by
 have hl:=bQ.2 b0;obtain⟨n,hn⟩:∃n,n=Z f-1:=⟨_,J⟩;have hnb:((Z f:G)-1)=(n:G):=O;rw[<-hn];obtain⟨y,B⟩:∃y,y=nG f m n (Z a-n) a:=⟨_,J⟩;rw[<-B];refine aI Tryz.func102 ?_;refine N J<|N J ?_ (hp:=aF);refine F<|YL J J J J J J J J ?_ ?_<|z J ?_
 .show(Z a+Z a/4+192)*24<=_;omega
 .show Z a*1<=_;omega
 refine Ml (λd:V (V Rat)=>⟨[(8,.c<|.X 2001000)],[(2001000,.vec 29 LQ d)],20,[]⟩) (λd=>d=y/\Z d<=100) (λd hr=>?_)<|λW=>?_
 .obtain⟨rfl,hr⟩:=hr;refine jH ⟨[(8,.c<|.X 2001000)],[(2001000,.vec 29 LQ<|jQ d)],30,[]⟩ ?_ (λC=>?_)
  .exact cY 2001000 J J J<|N J<|cw J
  refine au<|a8 (α:=Y) (λo=>⟨[(8,.c<|.X 2001000)],[(2001000,.vec 29 LQ<|c o d)],22,[]⟩) (λo=>o<=Z d/\lA d o=lA d (Z d)) (λo=>o) (Z d) ⟨aO _,J⟩ (wk ⟨sR J,h⟩ ⟨bE J ?_,h⟩) ?_
  .rw[fR]
  rintro o ⟨hq,H⟩;have hlq:(c o d).length=o:=BI;refine j<|F<|rg 61 J J (λl=>?_)<|λl=>?_
  .have l:0<o:=by have l:((c o d).length:G)>0:=aU l;omega
   obtain⟨k,rfl⟩:∃k,o=k+1:=⟨o-1,O⟩;have e2:af (((c (k+1) d).length:G)-1)=k:=O;have e3:(c (k+1) d).getD k []=d.getD k []:=by rw[aK,AH O,<-aK]
   refine z J (al J (λh2=>?_)<|λh2=>?_) (hp:=aF)
   .have h2:(Z ((c (k+1) d).getD (af<|(((c (k+1) d).length:G)-1)) []):G)=0:=eq_of_beq h2;rw[e2,e3]at h2;have E:d.getD k []=[]:=eT O;refine aD (au<|cu<|agX k J J J J O J O (z J<|eE<|aT k ⟨O,?_⟩ (O:k<k+1)<|Wk.trans (wk (st':=⟨[(8,.c<|.X 23004000)],[(23004000,.vec 29 LQ<|c k d)],24,[]⟩) ⟨sR J,h⟩ ⟨bE J ?_,h⟩)<|Wk.trans (fU 2001000 23004000 J J J) aM) (hp:=aF))
    .rw[<-H,lA,b E]
    .rw[Lb,oh O]
   .have h2:(Z ((c (k+1) d).getD (af<|(((c (k+1) d).length:G)-1)) []):G)≠0:=ne_of_beq_false h2;rw[e2,e3]at h2;have E:d.getD k []≠[]:=λe=>h2 sJ
    refine a7<|dB C<|wk ⟨sR J,h⟩ ⟨bE J ?_,h⟩;rw[jQ,<-H,lA,w E]
  .have l:o=0:=by have l:¬((c o d).length:G)>0:=a6 l;omega
   subst l;refine z J<|al J (λh2=>mM)<|λ_=>?_;refine a7<|dB C<|wk ⟨sR J,h⟩ ⟨bE J ?_,h⟩;rw[jQ,<-H];rfl
 refine N J ?_ (hp:=aF);refine au<|a8 (α:=V<|V Rat) (λd=>⟨[(1,I LQ f),(2,I .q m),(7,R<|(Z f:G)-1),(8,.c<|.X 2001000),(9,R<|(Z d:G)-1)],[(2001000,.vec 29 LQ d)],5,[]⟩) (λd=>Z d<=Z a/\nG f m n (Z d-n) d=y/\∀e∈d,Ez m ((t+u+29)*2^(Z a-Z d)-(u+29)) e) (λd=>Z d) a ⟨aO _,B.symm,λe H=>(ha e H).le<|by rw[lH,po,qB];omega⟩ aM ?_;rintro d ⟨hra,K,A⟩;refine j<|N J<|al J (λl=>?_)<|λl=>?_
 .have l:n<Z d:=by have l:(Z d:G)-1>=(Z f:G)-1:=aU l;omega
  obtain⟨i,hi⟩:∃i,Z d=i+1:=⟨Z d-1,O⟩;have Pu:n<=i:=O;have e1:((Z d:G)-1)=(i:G):=O;have S:2^(Z a-Z d+1)<=2^Z a:=eQ D O;have hpp:0<2^(Z a-Z d):=gQ D;obtain⟨T,hT⟩:∃T,T=(t+u+29)*2^(Z a-Z d)-(u+29):=⟨_,J⟩;have hge:t+u+29<=(t+u+29)*2^(Z a-Z d):=oy _ hpp;have P:(t+u+29)*2^(Z a-Z d+1)=2*((t+u+29)*2^(Z a-Z d)):=by rw[fO,<-pj,gG]
  have hT9:2*((t+u+29)*2^(Z a-Z d))<=1000000000000:=by rw[<-P];exact bm (fN _ S) hs
  rw[<-hT]at A;have L:T+u+200<3200000000000:=O;have p:∀g,Z (jE f m i n d g)=Z d:=Ga f m i n d;refine aD<|j<|au ?_;refine jH ⟨[(1,I LQ f),(2,I .q m),(7,R<|(Z f:G)-1),(8,.c<|.X 2001000),(9,R<|(Z d:G)-1)],[(2001000,.vec 29 LQ<|jE f m i n d n)],16,[]⟩ ?_<|λQ=>?_
  .have v:Z (c i<|jE f m i n d n)=i:=by rw[eL,p];omega
   refine cu<|agX i J J J J e1 J (by rw[p];omega)<|z J<|bw<|rt J (aT (c i<|jE f m i n d n) ⟨?_,?_,?_⟩ ?_<|Wk.trans (wk (st':=⟨[(1,I LQ f),(2,I .q m),(7,R<|(Z f:G)-1),(8,.c<|.X 16002000),(9,R<|((Z (c i<|jE f m i n d n):G)-1))],[(16002000,.vec 29 LQ<|c i<|jE f m i n d n)],18,[]⟩) ⟨sR J,sR J,sR J,sR J,sE J ?_,h⟩ ⟨bR J,h⟩)<|Wk.trans (fU 2001000 16002000 J J J) aM) (hp:=aF)
   .rw[v];omega
   .rw[v,<-K,(O:Z d-n=(i-n)+1),nG,(O:n+(i-n)=i)]
   .intro e H;rw[v,(O:Z a-i=Z a-Z d+1),P];exact(Wl M A hb L i n n e<|vi H).le O
   .show Z (c i<|jE f m i n d n)<Z d;rw[v];omega
   .rw[v];exact be R O
  refine N J<|au<|a8 (α:=Y) (λg=>⟨[(1,I LQ f),(2,I .q m),(7,R<|(Z f:G)-1),(8,.c<|.X 2001000),(9,R<|(Z d:G)-1),(24,R<|(Z f:G)-1),(25,R g)],[(2001000,.vec 29 LQ<|jE f m i n d g)],8,[]⟩) (λg=>g<=n) (λg=>n-g) 0 (aY _) aM ?_;intro g hj;refine N J<|j<|al J (λh2=>?_)<|λh2=>?_
  .have h2:g<n:=by have h2:(g:G)<(Z f:G)-1:=aU h2;omega
   have q1:af ((Z d:G)-1-((Z f:G)-1)+(g:G))=i-n+g:=O;have q2:af ((Z d:G)-1)=i:=O;have q3:af ((g:G))=g:=bY g;have z1:=Ez.getD M A<|i-n+g;have z2:=Ez.getD M A i;have z3:=Ez.getD M hb g;have z4:=z2.mul M z3 L;have U:r q 19 [I .q ((jE f m i n d g).getD (af<|(Z d:G)-1) []),I .q<|f.getD (af<|(g:G)) [],I .q m] (I .q<|fm (d.getD i []) (f.getD g []) m):=by rw[q2,q3,Wj f m i n d g i O];let ⟨_,_,_,x⟩:=Wa M (AB z2.1) (AB z3.1) z2.2 z3.2 L;exact x
   have Bs:r q 74 [I .q ((jE f m i n d g).getD (af<|(Z d:G)-1-((Z f:G)-1)+(g:G)) []),I .q<|fm (d.getD i []) (f.getD g []) m] (I .q<|fQ (d.getD (i-n+g) [])<|fm (d.getD i []) (f.getD g []) m):=by rw[q1,Wj f m i n d g _ O];exact z1.1.V8 z4.1 (s:=100000000000) D D O O D
   have hlj:=p g;refine aD<|j<|au<|N J<|cu<|rc J J U (rc J J Bs<|vO (T:=LQ) (fQ (d.getD (i-n+g) [])<|fm (d.getD i []) (f.getD g []) m) J J J J J ?_ (z J<|bw<|rt J<|aT (g+1) h2 (O:n-(g+1)<n-g)<|wk (bO J) ⟨bE J ?_,h⟩) (hp:=aF)) (hp:=aF)
   .rw[q1,p];omega
   .rw[q1];rfl
  .have h2:g=n:=by have h2:¬(g:G)<(Z f:G)-1:=a6 h2;omega
   subst h2;exact a7<|dB Q aM
 .have l:Z d<=n:=by have l:¬(Z d:G)-1>=(Z f:G)-1:=a6 l;omega
  rw[(O:Z d-n=0)]at K;exact a7<|dB (W d ⟨K,O⟩) aM
def auh{a f g d x:Rx}(i:a∣f-g)(k:a∣d-x):a∣(f-d)-(g-x):=by
 have:=dvd_sub i k;have l:(f-g)-(d-x)=(f-d)-(g-x):=Rx.ext λj=>by simp only[lO];grind
 rwa[l]at this
abbrev Fm:=Y->Rx
def iV(k:Y)(g:Fm):Fm:=λi=>if k<=i then g (i-k)else 0
inductive Sp(M:Rx)(S:Fm->Prop):Fm->Prop
 |nil {w:Fm} (h:∀i,M∣w i):Sp M S w
 |add {v g w:Fm} (c:Rx) (k:Y) (h:Sp M S v) (hg:S g) (a:∀i,M∣w i-(v i+c*iV k g i)):Sp M S w
section
variable{M:Rx}{S:Fm->Prop}{v w g:Fm}
def Sp.og(a:Sp M S v)(d:∀i,M∣w i-v i):Sp M S w:=by
 cases a with
 |nil a=>exact .nil λi=>aaQ (d i)<|a i
 |add c k a hg h2=>exact .add c k a hg λi=>lT (d i)<|h2 i
def Sp.of(a:S g):Sp M S g:= .add (v:=λ_=>0) 1 0 (.nil λ_=>dvd_zero _) a λi=>by show M∣g i-(0+1*(if 0<=i then g (i-0)else 0));rw[b (aY _),BO,Rx.one_mul,Rx.zero_add];exact fP _ _
def Sp.plus(a:Sp M S v)(k:Sp M S w):Sp M S (λi=>v i+w i):=by
 induction k with
 |nil hw=>exact a.og λi=>by rw[Rx.add_comm,Rx.uC];exact hw i
 |add c k _ hg h2 d=>
  exact .add c k d hg λi=>by have:=Nh (fP M<|v i)<|h2 i;rwa[<-Rx.add_assoc]at this
def Sp.qP d(a:Sp M S v):Sp M S (λi=>d*v i):=by
 induction a with
 |nil a=>exact .nil λi=>dw (a i) d
 |add c k _ hg h2 f=>
  exact .add (d*c) k f hg λi=>by have:=nA (fP M d)<|h2 i;rwa[Rx.mul_add,<-Rx.mul_assoc]at this
def aui a k(g:Fm):iV a (iV k g)=iV (a+k) g:=funext λi=>by
 unfold iV;by_cases h:a<=i
 .rw[b h];by_cases h2:k<=i-a
  .rw[b h2,b O,(O:i-a-k=i-(a+k))]
  .rw[Aw h2,Aw O]
 .rw[Aw h,Aw O]
def Sp.iV a(f:Sp M S v):Sp M S (iV a v):=by
 induction f with
 |nil f=>
  exact .nil λi=>by
   unfold El.iV;split
   .exact f _
   .exact dvd_zero _
 |@add v g w c k _ hg h2 l=>
  exact .add c (a+k) l hg λi=>by
   rw[<-aui];show M∣(if a<=i then w (i-a)else 0)-((if a<=i then v (i-a)else 0)+c*(if a<=i then El.iV k g (i-a)else 0));by_cases d:a<=i
   .rw[b d,b d,b d];exact h2 _
   .rw[Aw d,Aw d,Aw d,Rx.mul_zero,Rx.zero_add];exact fP _ _
def Sp.trans{T:Fm->Prop}(a:Sp M S v)(d:∀g,S g->Sp M T g):Sp M T v:=by
 induction a with
 |nil a=>exact .nil a
 |add c k _ hg h2 f=>exact(f.plus<|((d _ hg).iV k).qP c).og h2
def Sp.sub(a:Sp M S v)(k:Sp M S w):Sp M S (λi=>v i-w i):=(a.plus<|k.qP<| -1).og λi=>by rw[Rx.neg_mul,Rx.one_mul,sub_def<|v i];exact fP _ _
end
def mu(a g:Fm):Y->Fm
 |0=>λ_=>0
 |n+1=>λi=>mu a g n i+a n*iV n g i
def ahh(a d g:Fm):∀n i,mu (λf=>a f+d f) g n i=mu a g n i+mu d g n i
 |0,_=>(Rx.add_zero _).symm
 |n+1,i=>by show mu _ g n i+(a n+d n)*_=(mu a g n i+a n*_)+(mu d g n i+d n*_);rw[ahh a d g n i,Rx.add_mul];ac_rfl
def ahi(a g:Fm)(n:Y):∀k i,mu (λd=>if d<n then a d else 0) g k i=mu a g (min n k) i
 |0,i=>by rw[Nat.min_zero];rfl
 |k+1,i=>by
  show mu _ g k i+(if k<n then a k else 0)*_=_;rw[ahi a g n k i];by_cases f:k<n
  .rw[b f,Nat.min_eq_right O,Nat.min_eq_right O];rfl
  .rw[w f,Rx.zero_mul,Rx.add_zero,oh O,oh O]
def ahj(f:Rx)(g:Fm)(d:Y):∀k i,mu (λa=>if a=d then f else 0) g k i=if d<k then f*iV d g i else 0
 |0,i=>by rw[w (vH _)];rfl
 |k+1,i=>by
  show mu _ g k i+(if k=d then f else 0)*_=_;rw[ahj f g d k i];by_cases l:k=d
  .subst l;rw[b J,w O,b O,Rx.zero_add]
  .rw[w l,Rx.zero_mul,Rx.add_zero];by_cases h2:d<k
   .rw[b h2,b O]
   .rw[w h2,w O]
def Sp.nf{M}{g v:Fm}(a:Sp M (λx=>x=g) v):∃n d,∀i,M∣v i-mu d g n i:=by
 induction a with
 |nil a=>exact⟨0,λ_=>0,λi=>by show M∣_-0;rw[Rx.sub_zero];exact a i⟩
 |@add v l w c k _ hg h2 f=>
  subst hg
  let ⟨n,d,e⟩:=f
  refine⟨max n<|k+1,λj=>(if j<n then d j else 0)+(if j=k then c else 0),λi=>?_⟩
  rw[ahh,ahi,ahj,b O,oh O]
  exact lT (h2 i)<|Nh (e i)<|fP _ _
section
variable{M:Rx}{g:Fm}{n:Y}
def ahk(a:∀i,n<i->M∣g i)(d:Fm):∀k i,k+n<=i->M∣mu d g k i
 |0,_,_=>dvd_zero _
 |k+1,i,f=>by refine dvd_add (ahk a d k i O)<|dw ?_ _;unfold iV;rw[b O];exact a _ O
def ahl(m:bq M)(o:∀i,n<i->M∣g i)(p:¬M∣g n)(d v:Fm):∀a,(∀i,M∣v i-mu d g a i)->(∀i,M∣v i)\/∃s,n<=s/\¬M∣v s
 |0,f=> .inl λi=>by have:M∣v i-0:=f i;rwa[Rx.sub_zero]at this
 |a+1,f=>by
  by_cases t:M∣d a
  .refine ahl m o p d v a λi=>?_
   refine lT (f i) ?_;show M∣(mu d g a i+d a*iV a g i)-mu d g a i;rw[Rx.add_comm,Rx.uC];exact kD t _
  .refine .inr ⟨a+n,O,λu=>?_⟩;have x:M∣mu d g a (a+n)+d a*iV a g (a+n):=by
    have:=dvd_sub u<|f<|a+n;have e:v (a+n)-(v (a+n)-mu d g (a+1) (a+n))=mu d g (a+1) (a+n):=Rx.ext λi=>by rw[lO,lO];grind
    rwa[e]at this
   have k:=uD x<|ahk o d a (a+n)<|aO _;unfold iV at k;rw[b O,zh]at k;rcases m.nZ k with l|l
   .exact t l
   .exact p l
def Sp.CR(d:bq M)(f:∀i,n<i->M∣g i)(k:¬M∣g n){v:Fm}(l:Sp M (λx=>x=g) v):(∀i,M∣v i)\/∃a,n<=a/\¬M∣v a:=
 let ⟨N,q,e⟩:=l.nf
 ahl d f k q v N e
end
def Gb(a m i:V e):Prop:=bI i/\Z i<Z m/\lx m∣lx i*lx a-1
noncomputable def iW(a m:V e):V e:=Classical.epsilon<|Gb a m
section
variable{m a i:V e}{t:Y}
def Wm(f:df m)(d:Gb a m i):i=iW a m:=by
 have k:Gb a m (iW a m):=Classical.epsilon_spec (p:=Gb a m) ⟨i,d⟩;refine TB d.1 k.1 f.can f.ne d.2.1 k.2.1 ?_;have e:=dvd_sub (dw d.2.2<|lx<|iW a m)<|dw k.2.2<|lx i;have g:lx (iW a m)*(lx i*lx a-1)-lx i*(lx (iW a m)*lx a-1)=lx i-lx (iW a m):=by
  rw[Rx.mul_sub,Rx.mul_sub,Rx.mul_one,Rx.mul_one,(fG:lx (iW a m)*(lx i*lx a)=lx i*(lx (iW a m)*lx a))];refine Rx.ext λj=>?_
  simp only[lO];grind
 rwa[g]at e
def auj{n t}(f:n<=3):(2*((2*n+2)*2^t))^(2*n+1)<=2^(7*t+28):=by
 have d:2*((2*n+2)*2^t)<=2^(t+4):=by rw[k4,<-pj,gG<|2^t];exact eC _ O
 refine bm (zR d _) ?_;rw[<-EO];refine eQ D ?_;have:=fN (t+4) (O:2*n+1<=7);omega
def auk(k:df m)(T:Ez m t a)(a0:a≠[])(ht:7<=t):∃i,Gb a m i/\Ht (2^(8*t+28)) (lx i):=by
 let ⟨w,m1,m2,E⟩:=k.ht;let ⟨g,a1,a2,I⟩:=T.1.ht;obtain⟨n,hn⟩:∃n,Z m=n+2:=⟨Z m-2,by have:=k.l2;omega⟩;have hl5:=k.l5;have W:=T.2;obtain⟨F,x⟩:∃F,F=K (w:e)*lx m:=⟨_,J⟩;obtain⟨d,y⟩:∃d,d=K (g:e)*lx a:=⟨_,J⟩;have N:dq F:=dq.of λi=>by let ⟨z,_,l⟩:=E i;exact⟨z,by rw[x,fh];exact l⟩
 have R:dq d:=dq.of λi=>by let ⟨z,_,l⟩:=I i;exact⟨z,by rw[y,fh];exact l⟩
 have bF:∀i,aC (nu F i)<=2^t:=λi=>by
  let ⟨z,X,l⟩:=E i;have B:nu F i=z:=by show(F i).num=z;rw[x,fh,l];rfl
  rw[B];exact bm X<|eQ D ht
 have bG:∀i,aC (nu d i)<=2^t:=λi=>by
  let ⟨z,X,l⟩:=I i;have B:nu d i=z:=by show(d i).num=z;rw[y,fh,l];rfl
  rw[B];exact X
 have zF:∀i,n+1<i->nu F i=0:=λi p=>wq<|bm (pI (n:=i) λj b=>by rw[x,fh,fX,iP m O,fH])<|aO _
 have zG:∀i,n<i->nu d i=0:=λi p=>wq<|bm (pI (n:=i) λj b=>by rw[y,fh,fX,iP a O,fH])<|aO _
 let ⟨u,v,f,u1,v1,B,hD,c,hv⟩:=abK VR zF zG bF bG;obtain⟨U,h⟩:∃U,U=uN u u1:=⟨_,J⟩;obtain⟨V,Q⟩:∃V,V=uN v v1:=⟨_,J⟩;have S:dq U:=by rw[h];exact Fh u u1
 have Y:dq V:=by rw[Q];exact Fh v v1
 have s:U*F+V*d=K (f:e):=by have i1:=S.mul N;have i2:=Y.mul R;refine ab8 (NZ i1 i2).1 (dq.K f) ?_;rw[(NZ i1 i2).2,Cd S N,Cd Y R,h,Q,z0,z0,B,anh]
 have o:∀i,V i=((v i:G):e):=λi=>by rw[Q];rfl
 have awd:w≠0:=m1;have q:=V' k.can k.fI T.1.can a0 W;have dF:lx m∣F:=by rw[x];exact dvd_mul_left _ _
 have C:f≠0:=λh0=>by
  subst h0;have s:U*F+V*d=0:=by rw[s];exact pq
  have d1:lx m∣V*d:=by refine uD ?_<|dw dF U;rw[s];exact dvd_zero _
  have d2:lx m∣lx a*(K (g:e)*V):=by rw[y]at d1;rwa[(fG:V*(K (g:e)*lx a)=lx a*(K (g:e)*V))]at d1
  have d3:=q.dvd d2;have v0:K (g:e)*V=0:=uG d3 (by have:=pI (A:=K (g:e)*V) (n:=n+1) (λi p=>by rw[fh,o,v1 i p];exact fH _);rw[fY k.can];omega);have H:V=0:=eZ λhh=>nW (th<|zH a1) hh v0
  rw[H,Rx.zero_mul,Rx.add_zero]at s;have L:F≠0:=by rw[x];exact nW (th<|zH m1)<|B2 k.can k.ne
  have u0:U=0:=eZ λhu=>nW hu L s
  refine c J ?_ ?_
  .rw[<-z0 v v1,<-Q,H];rfl
  .rw[<-z0 u u1,<-h,u0];rfl
 have M:(f:e)≠0:=zH C;have hB:=auj (n:=n) (t:=t) O;let ⟨i,p,r⟩:=jr<|K ((g:e)*(f:e)⁻¹)*V;have P:Z i<Z m:=by rw[<-fY p,r];have:=pI (A:=K ((g:e)*(f:e)⁻¹)*V) (n:=n+1) (λj b=>by rw[fh,o,v1 j b];exact fH _);omega
 refine⟨i,⟨p,P,?_⟩,?_⟩
 .have e1:lx i*lx a=K (f:e)⁻¹ *(V*d):=by rw[r,y,fa];ac_rfl
  have e2:V*d=K (f:e)-U*F:=xL (by rw[Rx.add_comm];exact s);rw[e1,e2,Rx.mul_sub,pH M];refine nz ?_;have e3:(1:Rx)-(1-K (f:e)⁻¹ *(U*F))=K (f:e)⁻¹ *(U*F):=Rx.ext λj=>by simp only[lO];grind
  rw[e3];exact dw (dw dF U) _
 .refine⟨f,C,bm (bm hD hB)<|eQ D O,λj=>⟨g*v j,?_,?_⟩⟩
  .have:=qO a2<|bm (hv j) hB;rw[<-k4]at this;rwa[(O:t+(7*t+28)=8*t+28)]at this
  .rw[r,fh,o,fZ,<-ny,BX (f:e),ny (g:e),lU _ M,tj]
def C5(f:df m)(g:Ez m t a)(k:a≠[])(l:7<=t):Gb a m (iW a m)/\Ez m (8*t+28) (iW a m):=by let ⟨i,d,h2⟩:=auk f g k l;have e:=Wm f d;subst e;have o:=f.l5;have n:=d.2.1;exact⟨d,⟨d.1,O,h2⟩,n⟩
end
def kx(l:V (V e)):Fm:=λi=>lx<|l.getD i []
def lY{l}{i}(a:Z l<=i):kx l i=0:=by rw[kx,aK,iX a];exact kE
def ahm(l:V (V e)):∀n i,lA l n<=i->i<n->l.getD i []=[]
 |0,_,_,d=>absurd d<|vH _
 |n+1,i,a,h2=>by
  rw[lA]at a;split at a
  .rename_i f;by_cases g:i=n
   .subst g;exact f
   .exact ahm l n i a O
  .omega
def ahn(l:V (V e)):∀n k,lA l n=k+1->l.getD k []≠[]
 |0,_,a=>by cases a
 |n+1,k,a=>by
  rw[lA]at a;split at a
  .exact ahn l n k a
  .rename_i d;have:n=k:=O;subst this;exact d
def aho l i:(jQ l).getD i []=l.getD i []:=by
 rw[jQ,aK,DE];split
 .rw[aK]
 .rename_i h;by_cases c:i<Z l
  .rw[ahm l (Z l) i O c];rfl
  .rw[aK,iX O]
def Wn l:kx (jQ l)=kx l:=funext λi=>by rw[kx,kx,aho]
def gJ(l:V (V e)):Prop:=l=[]\/l.getD (Z l-1) []≠[]
def J5 l:gJ (jQ l):=by
 have d:=Wf l<|Z l;have f:Z (jQ l)=lA l (Z l):=by rw[jQ,eL];omega
 by_cases h:jQ l=[]
 .exact .inl h
 .right;have:=bQ.2 h;obtain⟨k,a⟩:∃k,lA l (Z l)=k+1:=⟨lA l (Z l)-1,O⟩;rw[aho,(O:Z (jQ l)-1=k)];exact ahn l _ k a
def ahp(f:V e->V e) l i:(l.map f).getD i []=if i<Z l then f (l.getD i [])else[]:=by
 rw[aK,jh];split
 .rename_i h;rw[aK,cO h];rfl
 .rename_i h;rw[iX O];rfl
section
variable{m:V e}
def ahq(a:df m) d l i:lx m∣kx (l.map λx=>fm d x m) i-lx d*kx l i:=by
 rw[kx,ahp];split
 .exact Pq a.can a.ne
 .rw[lY (l:=l) O,Rx.mul_zero,kE];exact fP _ _
def ahr(d:df m) a l i:lx m∣kx (l.map λx=>fm x a m) i-lx a*kx l i:=by
 have e:(l.map λx=>fm x a m)=l.map λx=>fm a x m:=be (λf=>l.map f)<|funext λx=>agU x a m
 rw[e];exact ahq d a l i
def J6(d:df m) a l i:lx m∣kx (jw a m l) i-lx a*kx l i:=by rw[jw,Wn];exact ahq d a l i
def ahs a d i:kx (wO a d) i=kx a i-kx d i:=by
 rw[wO,Wn];by_cases h:i<max (Z a) (Z d)
 .rw[kx,aK,jh,k6 h];exact Ca _ _
 .rw[lY (by rw[cy,mQ];omega),lY (l:=a) O,lY (l:=d) O,Rx.sub_zero]
def aht n l:kx (bc n []++l)=iV n (kx l):=funext λi=>by
 show lx ((bc n []++l).getD i [])=if n<=i then lx (l.getD (i-n) [])else 0
 rw[aK,SB,fo];by_cases h:n<=i
 .rw[w O,b h,aK]
 .rw[b O,w h,lM,b O];exact kE
def mz(a d:V (V e)):Fm->Prop:=λg=>g=kx a\/g=kx d
abbrev iG(a:V (V e)):Fm->Prop:=λg=>g=kx a
def Wo(a:df m)(x y:V (V e)):∀i,Sp (lx m) (iG y) (kx<|oL x y m i)
 |0=> .nil λi=>by rw[oL,lY<|aY _];exact dvd_zero _
 |i+1=>by
  have d:=Wo a x y i;obtain⟨c,f⟩:∃c,c=eF ((-1:G):e) (x.getD i []):=⟨_,J⟩;have g:Sp (lx m) (iG y) (kx<|jw c m y):=((Sp.of (S:=iG y) J).qP<|lx c).og λj=>J6 a c y j
  have k:=d.sub<|g.iV i;refine k.og λj=>?_
  rw[oL,ahs,aht,<-f];exact fP _ _
def ahu(g:V (V e))(m:V e)(i n:Y)(f:V (V e))(l:i<Z f)(o:n<=i):∀d,d<=n->∀a,(jE g m i n f d).getD a []=if i-n<=a/\a<i-n+d then fQ (f.getD a []) (fm (f.getD i []) (g.getD (a-(i-n)) []) m)else f.getD a []
 |0,_,a=>by rw[w O];rfl
 |d+1,s,a=>by
  rw[jE];by_cases p:a=i-n+d
  .subst p;rw[b O,aK,List.getElem?_set_self (by rw[Ga];omega),zh];rfl
  .rw[aK,RQ O,<-aK,ahu g m i n f l o d O a];by_cases k:i-n<=a/\a<i-n+d
   .rw[b k,b O]
   .rw[w k,w O]
def aul(f:df m){d r}{n k}(s:Z d=n+1)(p:d.getD n []=[1])(t:Z r=n+k+1) i:lx m∣kx (c (n+k)<|jE d m (n+k) n r n) i-(kx r i-kx r (n+k)*iV k (kx d) i):=by
 have g:=Ga d m (n+k) n r n;by_cases h:i<n+k
 .have e:kx (c (n+k)<|jE d m (n+k) n r n) i=lx ((jE d m (n+k) n r n).getD i []):=by rw[kx,aK,AH h,<-aK]
  rw[e,ahu d m (n+k) n r O O n (aO _) i,zh];by_cases o:k<=i
  .rw[b O,Ca,iV,b o];have:=auh (fP (lx m)<|lx<|r.getD i [])<|Pq (a:=r.getD (n+k) []) (b:=d.getD (i-k) []) f.can f.ne;exact this
  .rw[w O,iV,w o,Rx.mul_zero,Rx.sub_zero];exact fP _ _
 .rw[lY (l:=c (n+k)<|jE d m (n+k) n r n) BI];by_cases e:i=n+k
  .subst e;rw[iV,b O,eK,show kx d n=1 by rw[kx,p];exact C2,Rx.mul_one,Rx.sub_self];exact fP _ _
  .rw[lY (l:=r) O,iV,b O,lY (l:=d) O,Rx.mul_zero,Rx.sub_self];exact fP _ _
def ahv(d:V (V e))(m:V e)(n:Y):∀k a,Z a=n+k->Z (nG d m n k a)=n
 |0,a,f=>f
 |k+1,a,f=>by rw[nG];refine ahv d m n k _ ?_;rw[eL,Ga];omega
def ahw(f:df m){d:V (V e)}{n:Y}(g:Z d=n+1)(l:d.getD n []=[1]):∀k a,Z a=n+k->Sp (lx m) (iG d) (λi=>kx a i-kx (nG d m n k a) i)
 |0,a,_=> .nil λi=>by rw[nG,Rx.sub_self];exact dvd_zero _
 |k+1,a,x=>by
  have o:=ahw f g l k (c (n+k)<|jE d m (n+k) n a n) (by rw[eL,Ga];omega);have t:=(((Sp.of (M:=lx m) (S:=iG d) J).iV k).qP<|kx a<|n+k).plus o;refine t.og λi=>?_
  rw[nG];have u:=aul f g l (r:=a) (k:=k) O i;generalize kx (c (n+k)<|jE d m (n+k) n a n) i=s at*;generalize kx a (n+k)*El.iV k (kx d) i=p at*;generalize kx (nG d m n k<|c (n+k)<|jE d m (n+k) n a n) i=z at*;have v:kx a i-z-(p+(s-z))= -(s-(kx a i-p)):=Rx.ext λj=>by simp only[lO,eV,EH];grind
  rw[v];exact dvd_neg u
end
def iH(a d:V (V e))(m:V e):V (V e):=jQ<|nG d m (Z d-1) (Z a-(Z d-1)) a
def aum{a d}{m}(g:d≠[]):Z (iH a d m)<Z d:=by
 have i:=bQ.2 g;have f:=PF<|nG d m (Z d-1) (Z a-(Z d-1)) a;unfold iH;by_cases h:Z d-1<=Z a
 .rw[ahv d m (Z d-1) _ a O]at f;omega
 .rw[(O:Z a-(Z d-1)=0),nG]at f⊢;omega
def aun{m}(f:df m){a d}(g:d≠[])(k:d.getD (Z d-1) []=[1]):Sp (lx m) (iG d) (λi=>kx a i-kx (iH a d m) i):=by
 have l:=bQ.2 g;unfold iH;rw[Wn];by_cases h:Z d-1<=Z a
 .exact ahw f O k _ a O
 .rw[(O:Z a-(Z d-1)=0),nG];exact .nil λi=>by rw[Rx.sub_self];exact dvd_zero _
def PI d a:Z (eF d a)<=Z a:=by refine bm (qN _) ?_;rw[cy,mQ];exact aO _
def ahx a d:Z (fQ a d)<=max (Z a) (Z d):=by refine bm (qN _) ?_;rw[cy,mQ];have:=PI ((-1:G):e) d;omega
def ahy{a b u n}(d:bI n):Z (q8 a b u n)<=max (Z u) (Z a+1-Z b+Z n-1):=by have f:=PI (sC a b)<|fQ u<|ml (cM a b) n;have g:=ahx u<|ml (cM a b) n;have i:=IV (zD a b) d;have k:=Rx.IP a b;show Z (eF _ _)<=_;omega
def ahz{s B W C:Y}(y:s<=100000000000)(L:C<=12)(M:W+4*B+6<32*s):∀(k t i:Y)(a f u n:V e),Pz 12 t a->Pz 12 t f->(f=[]\/Z f<Z a)->Z f<k->Pz 12 i u->Pz 12 i n->Z u+Z f<=C->Z n+Z a<=C->(t+1)*3^Z a<=B->(i+6*B)*2^k<=W->
  yl s k a f u n/\Pz 12 B (fg k a f)/\Pz 12 W (lz k a f u n).1/\(lz k a f u n).1.length<=C
 |0,_,_,_,_,_,_,_,_,_,dj,_,_,_,_,_,_=>by omega
 |k+1,t,i,a,f,u,n,o,A,l,hk,hu,v,P,Q,H,hw=>by
  have T:0<3^Z a:=gQ D;have U:t+1<=B:=bm (oy _ T) H;have X:0<2^(k+1):=gQ D;have c:i+6*B<=W:=bm (oy _ X) hw;by_cases g:f=[]
  .rw[yl,fg,lz,b g,b g];exact⟨.inl g,o.le (aO _) O,hu.le O O,(O:Z u<=C)⟩
  .have l:=l.resolve_left g;have j:=bQ.2 g;have q:=agN (t:=t) (d:=Z a-Z f) O;have r:Z a+1-Z f=Z a-Z f+1:=O;have K:(t+(t+1)*(Z a+1-Z f)+1)*3^Z f<=B:=by rw[r];refine bm (eC _ q) ?_;rw[pj,<-k4,PY<|yv l];exact H
   have z:0<3^Z f:=gQ D;have E:t+(t+1)*(Z a+1-Z f)+1<=B:=bm (oy _ z) K;have m:(2*i+2*(t+(t+1)*(Z a+1-Z f))+5+6*B)*2^k<=W:=by refine bm ?_ hw;rw[fO,gG (2^k) 2,<-pj];exact eC _ O
   have F:0<2^k:=gQ D;have G:=bm (oy _ F) m;let ⟨c1,I,J,N,R,p⟩:=agO (s:=s) (d:=Z a+1-Z f) o A g hu v (aO _) (by have:=o.len;omega) O y O;have S:=ahy (a:=a) (b:=f) (u:=u) v.can;have p:Pz 12 (2*i+2*(t+(t+1)*(Z a+1-Z f))+5) (q8 a f u n):=⟨p.can,O,p.ht⟩;have x:Z (dr<|cx a f)<Z f:=by rw[B4 (qM o.can)];exact pE g
   let ⟨r1,r2,r3,r4⟩:=ahz y L M k (t+(t+1)*(Z a+1-Z f)) (2*i+2*(t+(t+1)*(Z a+1-Z f))+5) f (dr<|cx a f) n (q8 a f u n) (A.le (aO _) O) R (.inr x) O (v.le (aO _) O) p O O K m;rw[yl,fg,lz,w g,w g];exact⟨.inr ⟨c1,I,J,N,r1⟩,r2,r3,r4⟩
def auo{t}{a m}(o:df m)(he:Ez m t a)(a0:a≠[])(ht:7<=t)(ht2:t<=50000000):r q 14 [I .q a,I .q m] (.t [(ah,[.S .q (iW a m)]),(ah,[.I .i64 0])]):=by
 have y:Pz 12 t a:=AB he.1;have hl:=he.2;have L:=o.l5;have hI:=o.fI;have g:Pz 12 t m:=o.pz.le D ht;obtain⟨s,hs⟩:∃s,s=100000000000:=⟨_,J⟩;obtain⟨B,hB⟩:∃B,B=(t+1)*243:=⟨_,J⟩;obtain⟨W,hW⟩:∃W,W=(4*t+5+6*B)*32:=⟨_,J⟩;have f:s<=100000000000:=O;have x:m≠[]:=o.ne;have uf:=bQ.2 x;have RU:=bQ.2 a0;have Sa:Z a+1-Z m<=0:=O;have Wp:(t+1)*3^Z m<=B:=by rw[hB];exact fN _<|bm (eQ D L) D
 have Wq:(4*t+5+6*B)*2^Z m<=W:=by rw[hW];exact fN _<|bm (eQ D L) D
 have zd:cx a m=a:=by rw[cx,b hl]
 let ⟨c1,c2,c3,c4,c5,c6⟩:=agO (s:=s) (l:=1) (w:=t) (d:=0) y g x (u:=[1]) (n:=[]) ((ym 1 t D)) (Pz.nil 1 t) Sa D D f O;have VN:=ahy (a:=a) (b:=m) (u:=[1]) (n:=[]) wa;rw[NH,jy]at c5 c6;have M:Z (dr<|cx a m)<Z m:=by rw[zd,B4 y.can];exact hl
 have awe:Z (q8 a m [1] [])<=1:=by rw[s3,nb]at VN;omega
 let ⟨r1,r2,r3,r4⟩:=ahz (s:=s) (W:=W) (B:=B) (C:=Z m+1) f O O (Z m) t (2*t+2*t+5) m (dr<|cx a m) [] (q8 a m [1] []) g c5 (.inr M) M (Pz.nil _ _) c6 (by rw[nb];omega) O Wp (by rw[(O:2*t+2*t+5=4*t+5)];exact Wq);have P:yl s (Z m+1) a m [1] []:= .inr ⟨c1,c2,c3,c4,r1⟩;have er:fg (Z m+1) a m=fg (Z m) m (dr<|cx a m):=by rw[fg,w x]
 have eU:lz (Z m+1) a m [1] []=lz (Z m) m (dr<|cx a m) [] (q8 a m [1] []):=by rw[lz,w x]
 rw[<-er]at r2;rw[<-eU]at r3 r4;let ⟨g1,g2,g3,_⟩:=Th (Z m+1) a m y.can g.can O;have Je:=V' g.can hI y.can a0 hl;have p:fg (Z m+1) a m≠[]:=(aa3 (k:=Z m+1) y.can g.can O a0).1;have Q:sz (lx<|fg (Z m+1) a m)=1:=(Je.symm.of_dvd g3).symm.unit g2;rw[fY g1]at Q;have T:=agP (A0:=lx a) (M0:=lx m) (Z m+1) a m [1] [] y.can g.can O (by rw[C2,Rx.one_mul];exact fP _ _) (by rw[kE,Rx.zero_mul,Rx.sub_zero];exact dvd_refl _);generalize hU:(lz (Z m+1) a m [1] []).1=U at*;generalize hR:fg (Z m+1) a m=bf at*;obtain⟨c,rfl⟩:∃c,bf=[c]:=by
  match bf,Q with
  |[c],_=>exact⟨c,J⟩
 have v:c≠0:=g1.ne p;have A:Ht (2^B) (K c⁻¹):=r2.ht.inv (k:=0) v;have X:QS s c:=r2.qs O 0;have H:dr [c]=[1]:=by refine oD (pJ _) J2 ?_;rw[uI p,xM,xM];show K c⁻¹ *K c=K 1;rw[<-fa,lU c v]
 have E:r q 114 [I .q [c]] (I .q [1]):=by have:=amp (s:=s) O O [c] p az v (λi=>r2.qs O i) (A.Pw O);rw[agx,<-abb p,H]at this;exact this
 have R:=M2 c (λe=>v<|v8 e) (X.n.sm O)<|X.d.sm O;have V:=r3.qP A;have mc:=PI c⁻¹ U;have Y:=r3.agy (s:=s) (c:=c⁻¹) (A.Pw O) D O f;have hd1:=g.Pp (s:=s) (ym 1 t D) D (d:=12) (by have:=g.len;simp;omega) D D O f;rw[agQ g.can]at hd1;have Av:=V.Pp (s:=s) g x (d:=2) O D D O f;have hu:Pz 12 (W+B+(t+1)*2) (cx (eF c⁻¹ U) m):=V.rem g x (d:=2) O;have hmul:=V7 (s:=s) hu y D D O f;have hp:=hu.mul y D;have rE:=(ym 1 t D).V8 (s:=s) hp D D O O f;have FM:=(ym 1 t D).sub hp;have J7:=FM.Pp (s:=s) g x (d:=30) (by have:=FM.len;omega) D D O f;have hb:=atm O f P hR hU x p az J E R Y hd1 Av hmul rE J7;have ni:cx (eF c⁻¹ U) m=iW a m:=Wm o ⟨hu.can,pE x,by
  have e1:lx m∣lx (eF c⁻¹ U)*lx a-1:=by have h2:lx m∣K c⁻¹ *(lx [c]-lx U*lx a):=dw T _;rw[Rx.mul_sub,xM,<-fa,lU c v,oC]at h2;rw[B8,Rx.mul_assoc];exact nz h2
  refine lT ?_ e1;have:=NB (a:=eF c⁻¹ U) g.can x;rw[<-Rx.sub_mul];exact kD this _⟩
 rw[ni]at hb;refine aI Tryz.func14 ?_;refine N J<|j<|N J<|al J (λh=>?_)<|λh=>aD ?_
 .have h:(Z a:G)=0:=eq_of_beq h;exact absurd h O
 .exact F<|rc J J hb<|z J<|N J<|cw J
section
variable{m a b:V e}{t:Y}
def PJ{u}(d:df m)(f:Ez m t a)(g:Ez m u b)(i:lx m∣lx a-lx b):a=b:=TB f.1.can g.1.can d.can d.ne f.2 g.2 i
def Wr(d:df m) t:Ez m t [1]:=⟨ym 4 t D,by have:=d.l2;show 1<_;omega⟩
def auq(d:df m)(f:Ez m t a)(g:a≠[])(i:7<=t):fm a (iW a m) m=[1]:=by have h:=(C5 d f g i).1;refine am6 (zI _ _) J2 d.can d.ne (Wr d 0).2 ?_;rw[uJ,C2,Rx.mul_comm];exact h.2.2
def aur(d:df m):¬lx m∣1:=d.fI.zy
end
noncomputable def eo(a:V (V e))(m:V e):V (V e):=if a=[]then[]else AD a (iW (a.getD (Z a-1) []) m) m
noncomputable def tF(m:V e):Y->V (V e)->V (V e)->V (V e)
 |0,a,_=>a
 |k+1,a,d=>if d=[]then a else tF m k d (eo (iH a d m) m)
def yo(l:V (V e)):Prop:=l=[]\/l.getD (Z l-1) []=[1]
section
variable{m:V e}{a b:V (V e)}{t u:Y}
def Gc a m:Z (eo a m)=Z a:=by
 unfold eo;split
 .rename_i h;rw[h]
 .rw[AD,cy]
def vf(f:∀g∈a,Ez m t g)(i:a≠[]):Ez m t (a.getD (Z a-1) []):=by have:=bQ.2 i;exact AA (d:=([]:V e)) f O
def J8(g:df m)(i:∀d∈a,Ez m t d)(l:gJ a)(n:7<=t)(s:t<=100000000000):∀d∈eo a m,Ez m (9*t+56) d:=by
 intro d f;unfold eo at f;split at f
 .cases f
 .rename_i k;obtain⟨y,o,rfl⟩:=iJ.1 f;have p:=(C5 g (vf i k) (l.resolve_left k) n).2;exact((i y o).mul g p O).le O
def Gd(d:df m)(f:∀g∈a,Ez m t g)(i:gJ a)(k:7<=t):yo (eo a m):=by
 by_cases a0:a=[]
 .left;rw[eo,gw a0]
 .right;have l:=bQ.2 a0;rw[Gc,eo,w a0,AD,ahp,gw O];exact auq d (vf f a0) (i.resolve_left a0) k
def PK(d:df m) a:Sp (lx m) (iG a) (kx<|eo a m):=by
 by_cases a0:a=[]
 .rw[eo,gw a0];exact .nil λi=>by rw[lY (aY _)];exact dvd_zero _
 .rw[eo,w a0];exact((Sp.of (S:=iG a) J).qP _).og λj=>ahr d _ a j
def Ge(d:df m)(g:∀k∈a,Ez m t k)(l:gJ a)(n:7<=t):Sp (lx m) (iG<|eo a m) (kx a):=by
 by_cases a0:a=[]
 .subst a0;exact .nil λi=>by rw[lY (aY _)];exact dvd_zero _
 .have o:=(C5 d (vf g a0) (l.resolve_left a0) n).1;refine((Sp.of (S:=iG<|eo a m) J).qP<|lx<|a.getD (Z a-1) []).og λj=>?_
  rw[eo,w a0];have p:=ahr d (iW (a.getD (Z a-1) []) m) a j;generalize a.getD (Z a-1) []=c at*;have s:lx m∣lx c*kx (AD a (iW c m) m) j-lx c*(lx (iW c m)*kx a j):=nA (fP _<|lx c) p;have f:lx m∣(lx (iW c m)*lx c)*kx a j-1*kx a j:=nA o.2.2<|fP _<|kx a j;rw[Rx.one_mul,(fG:lx (iW c m)*lx c*kx a j=lx c*(lx (iW c m)*kx a j))]at f;exact nz<|lT s f
def ahB(l:df m)(o:∀d∈b,Ez m u d)(n:Y):∀k(g:V (V e))(t:Y),(∀d∈g,Ez m t d)->(t+u+29)*2^k<=1000000000000->∀d∈nG b m n k g,Ez m ((t+u+29)*2^k) d
 |0,g,t,i,_,d,f=>(i d f).le O
 |k+1,g,t,i,p,d,f=>by
  have s:(t+u+29)*2^(k+1)=(2*t+u+29+u+29)*2^k:=by rw[fO,gG<|2^k,<-pj];congr 1;omega
  have v:0<2^(k+1):=gQ D;have x:=oy (t+u+29) v;rw[s]at p⊢;rw[nG]at f;refine ahB l o n k _ (2*t+u+29) (λd f=>?_) p d f;exact Wl l i o O (n+k) n n d<|vi f
def aus(g:df m)(i:∀d∈a,Ez m t d)(k:∀d∈b,Ez m u d)(l:b≠[])(f:(t+u+29)*2^(Z a+1-Z b)<=1000000000000):∀d∈iH a b m,Ez m ((t+u+29)*2^(Z a+1-Z b)) d:=by intro d n;have p:=bQ.2 l;have o:Z a-(Z b-1)=Z a+1-Z b:=O;rw[<-o]at f⊢;exact ahB g k (Z b-1) _ a t i f d<|PE n
end
structure Gk(m:V e)(a b g:V (V e)):Prop where
 top:yo g
 gen:Sp (lx m) (mz a b) (kx g)
 da:Sp (lx m) (iG g) (kx a)
 db:Sp (lx m) (iG g) (kx b)
def Gf(m:V e):Y->V (V e)->V (V e)->Prop
 |0,_,d=>d=[]
 |k+1,a,d=>d=[]\/(r q 102 [I LQ a,I LQ d,I .q m] (I LQ<|iH a d m)/\r q 101 [I LQ (iH a d m),I .q m] (I LQ<|eo (iH a d m) m)/\Z d<=4/\Gf m k d (eo (iH a d m) m))
def C6:Y->Y->Y->Y->Y->Bool
 |0,_,_,_,_=>ah
 |k+1,la,lb,ta,a=>dP ((ta+a+29)*2^la) 1000000000000&&dP a 200000000&&(bX lb).all λd=>d==0||(dP ((ta+a+29)*2^(la+1-lb)) 50000000&&C6 k lb d a (9*((ta+a+29)*2^(la+1-lb))+56))
def Ws(m:V e):r q 101 [I LQ [],I .q m] (I LQ []):=by refine aI Tryz.func101 ?_;exact N J<|j<|N J<|al J (λh=>N J<|bL<|cK<|ig cv J<|bl.nil _)<|λh=>fE
def PL{m}{a}{t}(f:df m)(g:∀l∈a,Ez m t l)(d:gJ a)(i:7<=t)(n:t<=50000000)(o:Z a<=1000):r q 101 [I LQ a,I .q m] (I LQ<|eo a m):=by
 by_cases a0:a=[]
 .rw[eo,b a0,a0];exact Ws m
 .rw[eo,w a0];have k:=vf g a0;have d:=d.resolve_left a0;exact aud f g a0 (C5 f k d i).2 (auo f k d i n) O o
def Gk.step{m}{a f i g}(d:Gk m f i g)(l:Sp (lx m) (mz a f) (kx i))(n:Sp (lx m) (mz f i) (kx a)):Gk m a f g:=by
 refine⟨d.top,d.gen.trans λx k=>?_,n.trans λx k=>?_,d.da⟩
 .rcases k with rfl|rfl
  .exact Sp.of<|.inr J
  .exact l
 .rcases k with rfl|rfl
  .exact d.da
  .exact d.db
def ahC{m:V e}(l:df m):∀(k:Y)(a d:V (V e))(p g:Y),(∀f∈a,Ez m p f)->(∀f∈d,Ez m g f)->yo a->yo d->Z a<=4->Z d<=4->(d=[]/\p<=200000000\/d≠[]/\C6 k (Z a) (Z d) p g=ae)->
  Gf m k a d/\Gk m a d (tF m k a d)/\(∀f∈tF m k a d,Ez m 200000000 f)/\Z (tF m k a d)<=4
 |k,a,d,p,g,H,L,pa,M,la,lb,.inl ⟨n,P⟩=>by
  have f:tF m k a d=a:=by cases k with
   |zero=>rfl
   |succ k=>rw[tF,b n]
  rw[f];refine⟨?_,⟨pa,Sp.of<|.inl J,Sp.of J,?_⟩,λf K=>(H f K).le P,la⟩
  .cases k with
   |zero=>exact n
   |succ k=>exact .inl n
  .rw[n];exact .nil λi=>by rw[lY (aY _)];exact dvd_zero _
 |0,_,_,_,_,_,_,_,_,_,_,.inr ⟨_,h⟩=>by cases h
 |k+1,a,d,p,g,H,L,pa,M,la,lb,.inr ⟨s,h⟩=>by
  rw[C6,cz,cz]at h;let ⟨⟨C,Q⟩,U⟩:=h;have C:=c8 C;have Q:=c8 Q;have U:=jS.1 U;have hl:=bQ.2 s;have W:=M.resolve_left s;have X:=aum (a:=a) (m:=m) s;have N:2^(Z a+1-Z d)<=2^Z a:=eQ D O;have F:(p+g+29)*2^(Z a+1-Z d)<=1000000000000:=bm (fN _ N) C;have y:=aus l H L s F;have o:gJ (iH a d m):=J5 _;have A:=aun l (a:=a) s W;have G:=auf l H L s O O C;rw[show jQ (nG d m (Z d-1) (Z a-(Z d-1)) a)=iH a d m from J]at G;obtain⟨R,B⟩:∃R,R=(p+g+29)*2^(Z a+1-Z d):=⟨_,J⟩;rw[<-B]at y F;have c:0<2^(Z a+1-Z d):=gQ D;have S:29<=R:=by have:=oy (p+g+29) c;omega
  have t:=Gc (iH a d m) m;have z:(eo (iH a d m) m=[]/\g<=200000000\/eo (iH a d m) m≠[]/\C6 k (Z d) (Z<|eo (iH a d m) m) g (9*R+56)=ae)/\r q 101 [I LQ (iH a d m),I .q m] (I LQ<|eo (iH a d m) m)/\∀f∈eo (iH a d m) m,Ez m (9*R+56) f:=by
   by_cases r0:iH a d m=[]
   .refine⟨.inl ⟨?_,Q⟩,?_⟩
    .rw[eo,b r0]
    .rw[eo,b r0,r0];exact⟨Ws m,λf K=>by cases K⟩
   .have X4:=bQ.2 r0;have u:=U (Z<|iH a d m)<|l3.2 X;rw[vE,cz,<-B]at u;rcases u with u|⟨u,h5⟩
    .exact absurd (eq_of_beq u) O
    .refine⟨.inr ⟨λf=>?_,by rw[t];exact h5⟩,PL l y o O (c8 u) O,J8 l y o O<|bm (c8 u) D⟩;rw[f]at t;rw[nb]at t;omega
  let ⟨k1,c2,zm⟩:=z;let ⟨q1,q2,q3,q4⟩:=ahC l k d (eo (iH a d m) m) g (9*R+56) L zm M (Gd l y o O) lb O k1;rw[tF,w s,Gf];refine⟨.inr ⟨G,c2,lb,q1⟩,q2.step ?_ ?_,q3,q4⟩
  .have s1:Sp (lx m) (mz a d) (kx<|iH a d m):=by
    have s2:Sp (lx m) (mz a d) (kx a):=Sp.of<|.inl J;have E:=A.trans (T:=mz a d) λx v=>by subst v;exact Sp.of<|.inr J
    refine(s2.sub E).og λi=>?_
    rw[show kx a i-(kx a i-kx (iH a d m) i)=kx (iH a d m) i from Rx.ext λj=>by simp only[lO];grind];exact fP _ _
   exact(PK l<|iH a d m).trans λx v=>by subst v;exact s1
  .have E:=A.trans (T:=mz d<|eo (iH a d m) m) λx v=>by subst v;exact Sp.of (.inl J)
   have s4:=(Ge l y o O).trans (T:=mz d<|eo (iH a d m) m) λx v=>by subst v;exact Sp.of<|.inr J
   refine(E.plus s4).og λi=>?_
   rw[Rx.kA];exact fP _ _
def Gg{m}(a:df m){g}(d:yo g)(f:g≠[]):¬lx m∣kx g (Z g-1):=by rw[kx,d.resolve_left f,C2];exact aur a
def Wt{m}(d:df m){g l}(f:¬lx m∣kx g (Z g-1))(k:Sp (lx m) (iG g) (kx l))(o:Z l<Z g):∀i,lx m∣kx l i:=by
 rcases k.CR d.fI (n:=Z g-1) (λi p=>by rw[lY O];exact dvd_zero _) f with a|⟨j,a,h2⟩
 .exact a
 .exact absurd aut h2
def ahD{m}(a:df m){l}{t}(f:∀g∈l,Ez m t g)(k:∀i,lx m∣kx l i)(n:gJ l):l=[]:=by
 refine eZ λd=>n.resolve_left d ?_
 refine PJ a (vf f d) (Ez.nil a 0) ?_;rw[kE,Rx.sub_zero];exact k _
def auu{m}(d:df m){g a}{t u}(L:∀k∈g,Ez m t k)(A:∀k∈a,Ez m u k)(o:yo g)(v:yo a)(s:Sp (lx m) (iG g) (kx a))(H:Sp (lx m) (iG a) (kx g)):g=a:=by
 have z:∀{g a:V (V e)},g=[]->yo a->Sp (lx m) (iG g) (kx a)->a=[]:=λ{g a} k v s=>by
  refine eZ λf=>Gg d v f ?_
  have:Sp (lx m) (λ_=>False) (kx a):=s.trans λx P=>by subst P;exact .nil λi=>by rw[k,lY<|aY _];exact dvd_zero _
  cases this with
  |nil o=>exact o _
  |add _ _ _ o _=>exact o.elim
 by_cases f:g=[]
 .rw[f,z f v s]
 by_cases p:a=[]
 .exact absurd (z p o H) f
 have K:Z g=Z a:=by
  refine Nat.le_antisymm ?_ ?_
  .refine vj λB=>Gg d v p<|Wt d (Gg d o f) s B _
  .refine vj λB=>Gg d o f<|Wt d (Gg d v p) H B _
 have U:=bQ.2 f;have Q:∀i,lx m∣kx g i-kx a i:=by
  have T:=(Sp.of (M:=lx m) (S:=iG g) J).sub s;rcases T.CR d.fI (n:=Z g-1) (λi W=>by rw[lY O];exact dvd_zero _) (Gg d o f)with y|⟨j,y,C⟩
  .exact y
  .refine absurd ?_ C;by_cases k:j=Z g-1
   .rw[k,kx,kx,o.resolve_left f,K,v.resolve_left p];exact fP _ _
   .rw[lY (l:=g) O,lY (l:=a) O];exact fP _ _
 refine rF K λi y C=>?_
 have k:=PJ d (Ez.getD d L i) (Ez.getD d A i)<|Q i;rwa[aK,aK,cO y,cO C]at k
def ahE{m}{a p l n g:V (V e)}{k}(s:Gf m k l n)(t:tF m k l n=g)(u:r q 101 [I LQ a,I .q m] (I LQ l))(v:r q 101 [I LQ p,I .q m] (I LQ n)):r q 49 [I LQ a,I LQ p,I .q m] (I LQ g):=by
 refine aI Tryz.func49 ?_;refine N J<|F<|rc J J u<|rc J J v<|z J<|j<|au<|a8 (α:=Y×V (V e)×V (V e)) (λx=>⟨[(0,I LQ x.2.1),(1,I LQ x.2.2),(2,I .q m)],[],10,[]⟩) (λx=>Gf m x.1 x.2.1 x.2.2/\tF m x.1 x.2.1 x.2.2=g) (λx=>x.1) (k,l,n) ⟨s,t⟩ aM ?_;clear s t u v;rintro⟨i,x,y⟩ ⟨h2,d⟩;simp only at h2 d;refine j<|N J<|al J (λf=>?_)<|λf=>?_
 .have o:y≠[]:=λA=>by subst A;cases f
  clear f;cases i with
  |zero=>exact absurd h2 o
  |succ i=>
   rw[Gf]at h2
   rcases h2 with h2|⟨c1,B,_,C⟩
   .exact absurd h2 o
   rw[tF,w o]at d
   generalize eo (iH x y m) m=R at*
   generalize iH x y m=H at*
   exact cP<|aL<|au<|cu<|rc J J c1<|rc J J B<|z J<|eE<|aT (i,y,R) ⟨C,d⟩ (dK i) aM
 .have f:y=[]:=by have f:¬(Z y:G)>0:=a6 f;exact eT O
  subst f;have d:x=g:=by
   cases i with
   |zero=>exact d
   |succ i=>rwa[tF,b J]at d
  subst d;exact a7<|aL<|N J<|cw J
def auv:((bX 5).all λa=>(bX 5).all λd=>C6 6 a d 3107 3107)=ae:=dZ
def auw{a d}(f:a<=4)(g:d<=4):C6 6 a d 3107 3107=ae:=jS.1 (jS.1 auv a<|l3.2 O) d<|l3.2 O
def Wu{m}{a d}(f:df m)(l:∀i∈a,Ez m 339 i)(n:∀i∈d,Ez m 339 i)(o:gJ a)(kb:gJ d)(A:Z a<=4)(B:Z d<=4):
  ∃g,r q 49 [I LQ a,I LQ d,I .q m] (I LQ g)/\Gk m a d g/\(∀i∈g,Ez m 200000000 i)/\Z g<=4:=by
 have C:=Gc a m
 have H:=Gc d m
 have s:eo d m=[]/\9*339+56<=200000000\/eo d m≠[]/\C6 6 (Z<|eo a m) (Z<|eo d m) (9*339+56) (9*339+56)=ae:=by
  by_cases i:eo d m=[]
  .exact .inl ⟨i,D⟩
  .exact .inr ⟨i,auw O O⟩
 let ⟨r1,p,t,u⟩:=ahC f 6 (eo a m) (eo d m) (9*339+56) (9*339+56) (J8 f l o D D) (J8 f n kb D D) (Gd f l o D) (Gd f n kb D) O O s
 refine⟨_,ahE r1 J (PL f l o D D O)<|PL f n kb D D O,⟨p.top,p.gen.trans λx v=>?_,?_,?_⟩,t,u⟩
 .rcases v with rfl|rfl
  .exact(PK f a).trans λy k=>by subst k;exact Sp.of<|.inl J
  .exact(PK f d).trans λy k=>by subst k;exact Sp.of<|.inr J
 .exact(Ge f l o D).trans λy k=>by subst k;exact p.da
 .exact(Ge f n kb D).trans λy k=>by subst k;exact p.db
def m5:Y->V e->V e->V e->V e->V e×V e
 |0,x,_,s,_=>(x,s)
 |k+1,x,y,s,t=>if y=[]then(x,s)else m5 k y (cx x y) t (fQ s<|ml (cM x y) t)
def C7:Y->V e->V e->V e->V e->Prop
 |0,_,y,_,_=>y=[]
 |k+1,x,y,s,t=>y=[]\/(r q 116 [I .q x,I .q y] (I .q<|cM x y)/\r q 34 [I .q (cM x y),I .q y] (I .q<|ml (cM x y) y)/\r q 117 [I .q x,I .q<|ml (cM x y) y] (I .q<|cx x y)/\
   r q 34 [I .q (cM x y),I .q t] (I .q<|ml (cM x y) t)/\r q 117 [I .q s,I .q<|ml (cM x y) t] (I .q<|fQ s<|ml (cM x y) t)/\Z y<=100/\C7 k y (cx x y) t (fQ s<|ml (cM x y) t))
def auy:oE (((1:G)):e)=[1]:=by decide+kernel
def auz{k0}{a f k U g u1 pe u p d v:V e}(l:C7 k0 f a [] [1])(hr:m5 k0 f a [] [1]=(k,U))(ha:a≠[])(hb:f≠[])(r0:k≠[])(la:Z a<=100)(lb:Z f<=100)(lr:Z k<=1000)(Q:E k (Z k-1) 0≠0){q}(hq:q<=200000000000)(T:∀i,QS q (E k i 0))
  (A:r Tryz.prog 66 [I .q a,I .q f] (I .q a)) (B:r Tryz.prog 29 [I .q k] (I .q g)) (H:r Tryz.prog 43 [aQ (E k (Z k-1) 0)⁻¹,I .q U] (I .q u1))
  (W:r Tryz.prog 116 [I .q f,I .q g] (I .q pe)) (Av:r Tryz.prog 66 [I .q u1,I .q pe] (I .q u))
  (L:r Tryz.prog 34 [I .q u,I .q a] (I .q p)) (M:r Tryz.prog 117 [I .q g,I .q p] (I .q d)) (J7:r Tryz.prog 116 [I .q d,I .q f] (I .q v)):
  r Tryz.prog 64 [I .q a,I .q f] (.t [(ah,[.S .q g]),(ah,[.S .q u]),(ah,[.S .q v])]):=by
 refine aI Tryz.func64 ?_
 have X:=bQ.2 ha
 have c:=bQ.2 hb
 refine N J<|j<|F<|rg 23 J J (λl=>?_)<|λh'=>?_
 .have l:(Z a:G)=0:=eq_of_beq l;exact absurd l O
 refine z J<|al J (λh2=>mM)<|λ_=>aD ?_
 refine j<|N J<|al J (λl=>?_)<|λh'=>aD ?_
 .have l:(Z f:G)=0:=eq_of_beq l;exact absurd l O
 have C:=Ts (((1:G)):e)
 rw[auy]at C
 refine N J<|F<|rc J J A<|z J ?_
 refine F<|rl .q [] J J (z J ?_)
 refine F<|rc J J (zb 1 D D)<|rc J J C<|z J ?_
 refine j<|au<|a8 (α:=Y×(V e×V e)×V e×V e) (λx=>⟨[(0,I .q a),(1,I .q f),(9,I .q x.2.1.1),(10,I .q x.2.1.2),(11,I .q x.2.2.1),(12,I .q x.2.2.2)],[],20,[]⟩) (λx=>C7 x.1 x.2.1.1 x.2.1.2 x.2.2.1 x.2.2.2/\m5 x.1 x.2.1.1 x.2.1.2 x.2.2.1 x.2.2.2=(k,U)) (λx=>x.1) (k0,(f,a),[],[1]) ⟨l,hr⟩ aM ?_
 clear l hr
 rintro⟨o,⟨x,y⟩,s,t⟩ ⟨h2,m⟩
 simp only at h2 m
 refine j<|N J<|al J (λn=>?_)<|λn=>?_
 .have K:y≠[]:=λdN=>by subst dN;cases n
  clear n;cases o with
  |zero=>exact absurd h2 K
  |succ o=>
   rw[C7]at h2
   rcases h2 with h2|⟨c1,c2,c3,c4,c5,c6,h5⟩
   .exact absurd h2 K
   rw[m5,w K]at m
   generalize fQ s (ml (cM x y) t)=S at*
   generalize ml (cM x y) t=P at*
   generalize ml (cM x y) y=P2 at*
   generalize cM x y=q' at*
   generalize cx x y=R at*
   refine cP<|aL<|au<|F<|rc J J c1<|z J ?_
   refine F<|rc J J c2<|rc J J c3<|z J ?_
   refine F<|rc J J c4<|rc J J c5<|z J ?_
   exact N J<|N J<|N J<|rt J<|eE<|aT (o,(y,R),t,S) ⟨h5,m⟩ (dK o) aM
 .have n:y=[]:=by have n:¬(Z y:G)>0:=a6 n;exact eT O
  subst n;have m:(x,s)=(k,U):=by
   cases o with
   |zero=>exact m
   |succ o=>rwa[m5,b J]at m
  obtain⟨rfl,rfl⟩:=Prod.mk.inj m;refine a7<|aL ?_;refine F<|rc J J (IT x r0 lr)<|rc J J (aa' _ Q (T _) O)<|z J ?_;refine F<|rc J J B<|z J ?_;refine F<|rc J J H<|rc J J W<|rc J J Av<|z J ?_;refine F<|rc J J L<|rc J J M<|rc J J J7<|z J ?_;exact cw J
def auA{x y}(d:bI x)(f:bI y)(g:y≠[]):fQ x (ml (cM x y) y)=cx x y:=by refine oD (mT _) (qM d) ?_;have i:=B3 (a:=x) f g;have k:lx (cx x y)=lx x-lx (cM x y)*lx y:=xL (by rw[Rx.add_comm];exact i.symm);rw[Ca,uJ,k]
def Pz.Wv{n m t u s}{a d}(f:Pz n t a)(g:Pz m u d)(o:n<=500)(p:m<=500)(i:t<32*s)(k:u<32*s)(l:s<=200000000000):r q 117 [I .q a,I .q d] (I .q<|fQ a d):=
 Tv a d (bm f.len O) (bm g.len O) (f.qs i) (g.qs k) O l
def ahF{s B W C:Y}(U:s<=50000000000)(hC:C<=12)(hW:W+4*B+6<32*s):∀(k t i:Y)(x y v T:V e),Pz 12 t x->Pz 12 t y->(y=[]\/Z y<Z x)->Z y<k->Pz 12 i v->Pz 12 i T->Z v+Z y<=C->Z T+Z x<=C->(t+1)*3^Z x<=B->(i+6*B)*2^k<=W->
  C7 k x y v T/\Pz 12 B (m5 k x y v T).1/\Pz 12 W (m5 k x y v T).2/\(m5 k x y v T).2.length<=C
 |0,_,_,_,_,_,_,_,_,_,dj,_,_,_,_,_,_=>by omega
 |k+1,t,i,a,f,u,n,m,o,p,hk,hu,L,hlu,hln,hB,hw=>by
  have p3:0<3^Z a:=gQ D;have j:t+1<=B:=bm (oy _ p3) hB;have q:0<2^(k+1):=gQ D;have r:i+6*B<=W:=bm (oy _ q) hw;by_cases g:f=[]
  .rw[C7,m5,b g];exact⟨.inl g,m.le (aO _) O,hu.le O O,(O:Z u<=C)⟩
  .have p:=p.resolve_left g;have z:=bQ.2 g;have E:=agN (t:=t) (d:=Z a-Z f) O;have F:Z a+1-Z f=Z a-Z f+1:=O;have X:(t+(t+1)*(Z a+1-Z f)+1)*3^Z f<=B:=by rw[F];refine bm (eC _ E) ?_;rw[pj,<-k4,PY<|yv p];exact hB
   have G:0<3^Z f:=gQ D;have I:t+(t+1)*(Z a+1-Z f)+1<=B:=bm (oy _ G) X;have M:Pz 12 (t+(t+1)*(Z a+1-Z f)) (cM a f):=(m.quo o g<|aO _).le (by have:=m.len;omega)<|aO _;have J:Pz 12 (t+(t+1)*(Z a+1-Z f)) (cx a f):=m.rem o g<|aO _;have N:=m.zJ o g (s:=s) (aO _) D D O;have R:=Rx.IP a f;have EW:=IV (zD a f) L.can;have A:=M.mul L D;have P:=M.mul o D;have A:Pz 12 (t+(t+1)*(Z a+1-Z f)+i+4) (ml (cM a f) n):=⟨A.can,O,A.ht⟩;have sf:=ahx u<|ml (cM a f) n;have l:=hu.sub A;have htT:t<=t+(t+1)*(Z a+1-Z f):=Nr _ _;generalize t+(t+1)*(Z a+1-Z f)=T at*;have H:(2*i+T+5+6*B)*2^k<=W:=by refine bm ?_ hw;rw[fO,gG (2^k) 2,<-pj];exact eC _ O
   have p5:0<2^k:=gQ D;have hw2:=bm (oy _ p5) H;have l:Pz 12 (2*i+T+5) (fQ u<|ml (cM a f) n):=⟨l.can,O,l.ht.le<|eQ D O⟩;have Q:Z (cx a f)<Z f:=pE g;have c1:=Nz O U m.can g N;have c2:=M.Px o (K:=200000000000) D D O D;have c:=m.Wv P (s:=200000000000) D D O O D;rw[auA m.can o.can g]at c;have c4:=M.Px L (K:=200000000000) D D O D;have c5:=hu.Wv A (s:=200000000000) D D O O D;let ⟨r1,r2,r3,r4⟩:=ahF U hC hW k T (2*i+T+5) f (cx a f) n (fQ u<|ml (cM a f) n) (o.le (aO _) O) J (.inr Q) O (L.le (aO _) O) l O O X H;rw[C7,m5,w g];exact⟨.inr ⟨c1,c2,c,c4,c5,by have:=o.len;omega,r1⟩,r2,r3,r4⟩
def ahG{A0 M0:Rx}:∀(k:Y)(x y s t:V e),bI x->bI y->Z y<k->M0∣lx x-lx s*A0->M0∣lx y-lx t*A0->M0∣lx (m5 k x y s t).1-lx (m5 k x y s t).2*A0
 |0,_,_,_,_,_,_,p,_,_=>by omega
 |k+1,x,y,s,t,hx,d,u,f,h2=>by
  rw[m5];split
  .exact f
  .rename_i g;have l:Z (cx x y)<Z y:=pE g;refine ahG k y (cx x y) t _ d (qM hx) O h2 ?_;have m:=B3 (a:=x) d g;have n:lx (cx x y)=lx x-lx (cM x y)*lx y:=xL (by rw[Rx.add_comm];exact m.symm);rw[Ca,uJ,n];have o:(lx x-lx (cM x y)*lx y)-(lx s-lx (cM x y)*lx t)*A0=(lx x-lx s*A0)-lx (cM x y)*(lx y-lx t*A0):=by
    simp only[Rx.mul_sub,Rx.sub_mul,Rx.mul_assoc];refine Rx.ext λi=>?_
    simp only[lO];grind
   rw[o];exact dvd_sub f<|dw h2 _
def ahH:∀(k:Y)(x y s t:V e),bI x->bI y->Z y<k->bI (m5 k x y s t).1/\lx (m5 k x y s t).1∣lx x/\lx (m5 k x y s t).1∣lx y/\(x≠[]\/y≠[]->(m5 k x y s t).1≠[])
 |0,_,_,_,_,_,_,f=>by omega
 |k+1,x,y,s,t,hx,g,m=>by
  rw[m5];split
  .rename_i d;exact⟨hx,dvd_refl _,by rw[d,kE];exact dvd_zero _,λf=>f.resolve_right λf=>f d⟩
  .rename_i d;have i:Z (cx x y)<Z y:=pE d;let ⟨d1,d2,d3,d4⟩:=ahH k y (cx x y) t (fQ s<|ml (cM x y) t) g (qM hx) O;refine⟨d1,?_,d2,λ_=>d4<|.inl d⟩;have l:=B3 (a:=x) g d;rw[l];exact dvd_add (dw d2 _) d3
def ahI{t}{a m}(l:df m)(he:Ez m t a)(a0:a≠[])(ht:7<=t)(ht2:t<=30000000):r q 15 [I .q a,I .q m] (.t [(ah,[.S .q (iW a m)]),(ah,[.I .i64 0])]):=by
 have y:Pz 12 t a:=AB he.1;have Q:=he.2;have T:=l.l5;have hI:=l.fI;have f:Pz 12 t m:=l.pz.le D ht;obtain⟨s,hs⟩:∃s,s=50000000000:=⟨_,J⟩;obtain⟨B,hB⟩:∃B,B=(t+1)*243:=⟨_,J⟩;obtain⟨W,hW⟩:∃W,W=(t+6*B)*32:=⟨_,J⟩;have n:s<=50000000000:=O;have g:m≠[]:=l.ne;have uf:=bQ.2 g;have RU:=bQ.2 a0;have Wp:(t+1)*3^Z m<=B:=by rw[hB];exact fN _<|bm (eQ D T) D
 have Wq:(t+6*B)*2^Z m<=W:=by rw[hW];exact fN _<|bm (eQ D T) D
 have zd:cx a m=a:=by rw[cx,b Q]
 have A:=NA (s:=s) O n y.can g<|y.zJ f g (d:=0) O D D O;rw[zd]at A;let ⟨r1,X,e,r4⟩:=ahF (s:=s) (W:=W) (B:=B) (C:=Z m+1) n O O (Z m) t t m a [] [1] f y (.inr Q) Q (Pz.nil _ _) (ym 12 t D) (by rw[nb];omega) Tt Wp Wq;let ⟨g1,g2,g3,g4⟩:=ahH (Z m) m a [] [1] f.can y.can Q;have Je:=V' f.can hI y.can a0 Q;have o:=g4<|.inl g;have v:=(Je.symm.of_dvd g2).symm.unit g3;rw[fY g1]at v;have p:=ahG (A0:=lx a) (M0:=lx m) (Z m) m a [] [1] f.can y.can Q (by rw[kE,Rx.zero_mul,Rx.sub_zero];exact dvd_refl _) (by rw[C2,Rx.one_mul];exact fP _ _);obtain⟨⟨bf,U⟩,hR⟩:∃x,m5 (Z m) m a [] [1]=x:=⟨_,J⟩;rw[hR]at X e r4 g1 o v p;simp only at X e r4 g1 o v p;obtain⟨c,rfl⟩:∃c,bf=[c]:=by
  match bf,v with
  |[c],_=>exact⟨c,J⟩
 have u:c≠0:=g1.ne o;have w:Ht (2^B) (K c⁻¹):=X.ht.inv (k:=0) u;have L:dr [c]=[1]:=by refine oD (pJ _) J2 ?_;rw[uI o,xM,xM];show K c⁻¹ *K c=K 1;rw[<-fa,lU c u]
 have H:=Nv (k:=200000000000) [c] az (λi=>X.qs O i) (λ_=>u) D;rw[L]at H;have M:=e.qP w;have mc:=PI c⁻¹ U;have E:=E9 (k:=200000000000) c⁻¹ U (by have:=e.len;omega) (w.Pw O) (λi=>e.qs O i) D;have R:=Nz (s:=s) O n f.can D<|f.zJ (ym 1 t D) D (d:=12) (by have:=f.len;simp;omega) D D O;rw[agQ f.can]at R;have Av:=NA (s:=s) O n M.can g<|M.zJ f g (d:=2) O D D O;have hu:Pz 12 (W+B+(t+1)*2) (cx (eF c⁻¹ U) m):=M.rem f g (d:=2) O;have V:=hu.Px y (K:=200000000000) D D O D;have hp:=hu.mul y D;have Y:=(ym 1 t D).Wv (s:=200000000000) hp D D O O D;have P:=(ym 1 t D).sub hp;have J7:=Nz (s:=s) O n P.can g<|P.zJ f g (d:=30) (by have:=P.len;omega) D D O;have hb:=auz (k0:=Z m) (q:=200000000000) r1 hR a0 g o O O az u D (λi=>X.qs O i) A H E R Av V Y J7;have ni:cx (eF c⁻¹ U) m=iW a m:=Wm l ⟨hu.can,pE g,by
  have e1:lx m∣lx (eF c⁻¹ U)*lx a-1:=by have h2:lx m∣K c⁻¹ *(lx [c]-lx U*lx a):=dw p _;rw[Rx.mul_sub,xM,<-fa,lU c u,oC]at h2;rw[B8,Rx.mul_assoc];exact nz h2
  refine lT ?_ e1;have:=NB (a:=eF c⁻¹ U) f.can g;rw[<-Rx.sub_mul];exact kD this _⟩
 rw[ni]at hb;refine aI Tryz.func15 ?_;refine N J<|j<|N J<|al J (λh=>?_)<|λh=>aD ?_
 .have h:(Z a:G)=0:=eq_of_beq h;exact absurd h O
 .exact F<|rc J J hb<|z J<|N J<|cw J
def vg(d:V (V e))(f m:V e)(a:V (V e)):V (V e):=wO a<|bc (Z a-Z d) []++jw (fm (a.getD (Z a-1) []) f m) m d
def tG(d:V (V e))(f m:V e):Y->V (V e)->V (V e)
 |0,a=>a
 |k+1,a=>if Z a<Z d then a else tG d f m k (vg d f m a)
def Gi(d:V (V e))(f m:V e):Y->V (V e)->Prop
 |0,a=>Z a<Z d
 |k+1,a=>Z a<Z d\/(r q 20 [I .q (a.getD (Z a-1) []),I .q f,I .q m] (I .q<|fm (a.getD (Z a-1) []) f m)/\r q 52 [I .q (fm (a.getD (Z a-1) []) f m),I LQ d,I .q m] (I LQ<|jw (fm (a.getD (Z a-1) []) f m) m d)/\
   r q 99 [I LQ a,I LQ<|bc (Z a-Z d) []++jw (fm (a.getD (Z a-1) []) f m) m d] (I LQ<|vg d f m a)/\Z (jw (fm (a.getD (Z a-1) []) f m) m d)<=1000/\Z a<=1000/\Gi d f m k (vg d f m a))
def auB{m}(d:df m){l}{t n}(k:∀a∈l,Ez m t a)(o:gJ l)(p:∀i,n<=i->lx m∣kx l i):Z l<=n:=by
 refine vj λf=>?_
 have g:l≠[]:=λa=>by rw[a]at f;exact vH _ f
 refine o.resolve_left g<|PJ d (vf k g) (Ez.nil d 0) ?_;rw[kE,Rx.sub_zero];exact p _ O
def ahJ{m:V e}(o:df m){d:V (V e)}{f:V e}{p s:Y}(L:∀g∈d,Ez m p g)(b0:d≠[])(M:Ez m s f)(lb:Z d<=100)(x:lx m∣lx f*lx (d.getD (Z d-1) [])-1):∀(k:Y)(a:V (V e))(n:Y),Z a<k->(∀g∈a,Ez m n g)->gJ a->Z a<=100->(n+p+s+57)*2^(Z a+1-Z d)<=400000000000->
  Gi d f m k a/\Z (tG d f m k a)<Z d/\Sp (lx m) (iG d) (λi=>kx a i-kx (tG d f m k a) i)/\(∀g∈tG d f m k a,Ez m ((n+p+s+57)*2^(Z a+1-Z d)) g)/\gJ (tG d f m k a)
 |0,_,_,dj,_,_,_,_=>by omega
 |k+1,a,n,hk,H,P,la,hs=>by
  have Lg:=bQ.2 b0;have I:0<2^(Z a+1-Z d):=gQ D;have N:=oy (n+p+s+57) I;rw[tG,Gi];by_cases hl:Z a<Z d
  .rw[b hl];exact⟨.inl hl,hl,.nil λi=>by rw[Rx.sub_self];exact dvd_zero _,λg A=>(H g A).le O,P⟩
  .rw[w hl];have R:a≠[]:=λg=>by rw[g,nb]at hl;omega
   have B:=vf H R;have Q:=B.mul o M O;obtain⟨T,U⟩:∃T,T=fm (a.getD (Z a-1) []) f m:=⟨_,J⟩;have q:=ag9 o B M O O;have W:lx m∣lx T-lx (a.getD (Z a-1) [])*lx f:=by rw[U];exact Pq o.can o.ne
   have v:vg d f m a=wO a (bc (Z a-Z d) []++jw T m d):=by rw[U];rfl
   rw[<-U]at Q q⊢;have c2:=PD o Q L O O O;have zs:=PG o Q L O;have sf:=J4 T m d;have r:=Wi o zs<|Z a-Z d;have E:=ahb (t:=n+s+28+p+28) (λg A=>(H g A).le O) r O O SC;have X:=ahd o H r;have F:gJ (vg d f m a):=by rw[v];exact J5 _
   rw[<-v]at E X;have C:∀i,kx (vg d f m a) i=kx a i-iV (Z a-Z d) (kx<|jw T m d) i:=λi=>by rw[v,ahs,aht]
   have K:Z (vg d f m a)<=Z a-1:=by
    refine auB o X F λi hi=>?_
    rw[C,iV,b O];by_cases g:i=Z a-1
    .subst g;have e1:Z a-1-(Z a-Z d)=Z d-1:=O;rw[e1];have h1:=J6 o T d<|Z d-1;have h2:lx m∣lx T*kx d (Z d-1)-(lx (a.getD (Z a-1) [])*lx f)*kx d (Z d-1):=nA W<|fP _ _;have G:lx m∣lx (a.getD (Z a-1) [])*(lx f*kx d (Z d-1))-lx (a.getD (Z a-1) [])*1:=nA (fP _ _) x;rw[<-Rx.mul_assoc,Rx.mul_one]at G;exact nz<|lT h1<|lT h2 G
    .rw[lY O,lY (l:=jw T m d) O];exact fP _ _
   have u:(n+(n+s+28+p+28)+1+p+s+57)*2^(Z (vg d f m a)+1-Z d)<=(n+p+s+57)*2^(Z a+1-Z d):=by rw[(O:n+(n+s+28+p+28)+1+p+s+57=(n+p+s+57)*2),pj,<-Nat.pow_succ'];exact fN _<|eQ D O
   let ⟨r1,r2,r3,r4,r5⟩:=ahJ o L b0 M lb x k (vg d f m a) (n+(n+s+28+p+28)+1) O X F O<|bm u hs;refine⟨.inr ⟨q,c2,E,O,O,r1⟩,r2,?_,λg A=>(r4 g A).le u,r5⟩;have s1:Sp (lx m) (iG d) (kx<|jw T m d):=((Sp.of (S:=iG d) J).qP<|lx T).og λj=>J6 o T d j
   refine((s1.iV<|Z a-Z d).plus r3).og λi=>?_
   rw[C];generalize kx (tG d f m k<|vg d f m a) i=z;generalize iV (Z a-Z d) (kx<|jw T m d) i=y;rw[show kx a i-z=y+(kx a i-y-z)from Rx.ext λj=>by simp only[lO,eV];grind];exact fP _ _
def auC{m f:V e}{a d n:V (V e)}{k}(A:d≠[])(L:Z d<=1000)(o:r q 15 [I .q (d.getD (Z d-1) []),I .q m] (.t [(ah,[.S .q f]),(ah,[.I .i64 0])]))(u:Gi d f m k a)(v:tG d f m k a=n):
  r q 103 [I LQ a,I LQ d,I .q m] (I LQ n):=by
 have B:=bQ.2 A
 have o:r q 15 [I .q (d.getD (af<|(Z d:G)-1) []),I .q m] (.t [(ah,[.S .q f]),(ah,[.I .i64 0])]):=by rw[(O:af ((Z d:G)-1)=Z d-1)];exact o
 refine aI Tryz.func103 ?_
 refine N J<|F<|rc J J o (z J ?_) (hp:=aF)
 refine j<|au<|a8 (α:=Y×V (V e)) (λx=>⟨[(0,I LQ x.2),(1,I LQ d),(2,I .q m),(7,I .q f)],[],10,[]⟩) (λx=>Gi d f m x.1 x.2/\tG d f m x.1 x.2=n) (λx=>x.1) (k,a) ⟨u,v⟩ aM ?_
 clear u v
 rintro⟨i,x⟩ ⟨h2,g⟩
 simp only at h2 g
 refine j<|N J<|al J (λl=>?_)<|λl=>?_
 .have M:Z d<=Z x:=by have l:(Z x:G)>=(Z d:G):=aU l;omega
  cases i with
  |zero=>exact absurd h2 (O:¬Z x<Z d)
  |succ i=>
   rw[Gi]at h2
   rcases h2 with h2|⟨p,C,H,l1,l2,K⟩
   .exact absurd h2 O
   rw[tG,w O]at g
   have ex:af ((Z x:G)-1)=Z x-1:=O
   have p:r q 20 [I .q (x.getD (af<|(Z x:G)-1) []),I .q f,I .q m] (I .q<|fm (x.getD (Z x-1) []) f m):=by rw[ex];exact p
   generalize vg d f m x=R at*
   generalize fm (x.getD (Z x-1) []) f m=T at*
   have y:=ahc (jw T m d) (Z x-Z d) l1 O
   rw[(O:((Z x-Z d:Y):G)=(Z x:G)-(Z d:G))]at y
   generalize jw T m d=S at*
   refine cP<|aL<|au<|F<|rc J J p (z J ?_) (hp:=aF)
   exact cu<|rc J J C<|rc J J y (rc J J H<|z J<|eE<|aT (i,R) ⟨K,g⟩ (dK i) aM) (hp:=aF)
 .have s:Z x<Z d:=by have l:¬(Z x:G)>=(Z d:G):=a6 l;omega
  have g:x=n:=by
   cases i with
   |zero=>exact g
   |succ i=>rwa[tG,b s]at g
  subst g;exact a7<|aL<|N J<|cw J
noncomputable def oM(a d:V (V e))(m:V e):V (V e):=tG d (iW (d.getD (Z d-1) []) m) m (Z a+1) a
def ahK{m}(l:df m){a d}{k n f}(u:∀g∈a,Ez m k g)(v:∀g∈d,Ez m n g)(x:gJ a)(kb:gJ d)(o:d≠[])(p:Ez m f (d.getD (Z d-1) []))(s:7<=f)(y:f<=30000000)(A:Z a<=100)(B:Z d<=100)(H:(k+n+(8*f+28)+57)*2^(Z a+1-Z d)<=400000000000):
  r q 103 [I LQ a,I LQ d,I .q m] (I LQ<|oM a d m)/\Z (oM a d m)<Z d/\Sp (lx m) (iG d) (λi=>kx a i-kx (oM a d m) i)/\(∀g∈oM a d m,Ez m ((k+n+(8*f+28)+57)*2^(Z a+1-Z d)) g)/\gJ (oM a d m):=by
 have t:=kb.resolve_left o
 let ⟨i1,i2⟩:=C5 l p t s
 let ⟨r1,C,K,L,M⟩:=ahJ l v o i2 B i1.2.2 (Z a+1) a k (dK _) u x A H
 exact⟨auC o O (ahI l p t s y) r1 J,C,K,L,M⟩
def auD{m}(a:df m){l}{t}(f:∀g∈l,Ez m t g)(i:gJ l)(d:l≠[]):¬lx m∣kx l (Z l-1):=λh=>by refine i.resolve_left d<|PJ a (vf f d) (Ez.nil a 0) ?_;rw[kE,Rx.sub_zero];exact h
def PM{m}(d:df m){a g}{o p f}(t:∀k∈a,Ez m o k)(s:∀k∈g,Ez m p k)(u:gJ a)(kb:gJ g)(l:g≠[])(v:Ez m f (g.getD (Z g-1) []))(x:7<=f)(y:f<=30000000)(A:Z a<=100)(B:Z g<=100)(H:(o+p+(8*f+28)+57)*2^(Z a+1-Z g)<=400000000000)(L:Sp (lx m) (iG g) (kx a)):
  r q 50 [I LQ g,I LQ a,I .q m] (cB ae):=by
 have C:=bQ.2 l
 let ⟨r1,K,M,P,Q⟩:=ahK d t s u kb l v x y A B H
 generalize oM a g m=n at*
 have T:n=[]:=by
  refine ahD d P (Wt d (auD d s kb l) ?_ K) Q;refine(L.sub M).og λi=>?_
  rw[show kx a i-(kx a i-kx n i)=kx n i from Rx.ext λU=>by simp only[lO];grind];exact fP _ _
 subst T
 refine aI Tryz.func50 ?_
 refine N J<|j<|N J<|al J (λh=>?_)<|λh=>aD ?_
 .have h:(Z g:G)=0:=eq_of_beq h;exact absurd h O
 exact F<|rc J J r1<|z J<|cw J
noncomputable def tH(m:V e):Y->V (V e)->V (V e)->V (V e)
 |0,a,_=>a
 |k+1,a,d=>if d=[]then a else tH m k d (oM a d m)
def Gj(m:V e):Y->V (V e)->V (V e)->Prop
 |0,_,d=>d=[]
 |k+1,a,d=>d=[]\/(r q 103 [I LQ a,I LQ d,I .q m] (I LQ<|oM a d m)/\Gj m k d (oM a d m))
def C8:Y->Y->Y->Y->Y->Bool
 |0,_,_,_,_=>ah
 |k+1,la,lb,ta,a=>dP a 30000000&&dP ((ta+a+(8*a+28)+57)*2^(la+1-lb)) 400000000000&&(bX lb).all λd=>d==0||C8 k lb d a ((ta+a+(8*a+28)+57)*2^(la+1-lb))
def auE:((bX 5).all λa=>(bX 5).all λd=>C8 6 a d 339 339)=ae:=dZ
def auF{a d}(f:a<=4)(g:d<=4):C8 6 a d 339 339=ae:=jS.1 (jS.1 auE a<|l3.2 O) d<|l3.2 O
structure Gq(m:V e)(a b g:V (V e)):Prop where
 gen:Sp (lx m) (mz a b) (kx g)
 da:Sp (lx m) (iG g) (kx a)
 db:Sp (lx m) (iG g) (kx b)
def Gq.step{m}{a d k g}(l:Gq m d k g)(o:Sp (lx m) (iG d) (λi=>kx a i-kx k i)):Gq m a d g:=by
 refine⟨l.gen.trans λx f=>?_,?_,l.da⟩
 .rcases f with rfl|rfl
  .exact Sp.of<|.inr J
  .have s2:Sp (lx m) (mz a d) (kx a):=Sp.of<|.inl J;have n:=o.trans (T:=mz a d) λx f=>by subst f;exact Sp.of (.inr J)
   refine(s2.sub n).og λi=>?_
   rw[show kx a i-(kx a i-kx k i)=kx k i from Rx.ext λj=>by simp only[lO];grind];exact fP _ _
 .have n:=o.trans (T:=iG g) λx f=>by subst f;exact l.da
  refine(n.plus l.db).og λi=>?_
  rw[Rx.kA];exact fP _ _
def ahL{m:V e}(L:df m):∀(k:Y)(a d:V (V e))(n f:Y),(∀g∈a,Ez m n g)->(∀g∈d,Ez m f g)->gJ a->gJ d->Z a<=4->Z d<=4->7<=f->(d=[]/\n<=30000000\/d≠[]/\C8 k (Z a) (Z d) n f=ae)->
  Gj m k a d/\Gq m a d (tH m k a d)/\(∀g∈tH m k a d,Ez m 30000000 g)/\gJ (tH m k a d)/\Z (tH m k a d)<=4
 |k,a,d,n,f,t,p,u,v,la,lb,_,.inl ⟨l,x⟩=>by
  have g:tH m k a d=a:=by cases k with
   |zero=>rfl
   |succ k=>rw[tH,b l]
  rw[g];refine⟨?_,⟨Sp.of<|.inl J,Sp.of J,?_⟩,λg Q=>(t g Q).le x,u,la⟩
  .cases k with
   |zero=>exact l
   |succ k=>exact .inl l
  .rw[l];exact .nil λi=>by rw[lY (aY _)];exact dvd_zero _
 |0,_,_,_,_,_,_,_,_,_,_,_,.inr ⟨_,h⟩=>by cases h
 |k+1,a,d,n,f,t,p,u,v,la,lb,T,.inr ⟨y,h⟩=>by
  rw[C8,cz,cz]at h;let ⟨⟨s,A⟩,B⟩:=h;have s:=c8 s;have A:=c8 A;have B:=jS.1 B;let ⟨r1,U,W,M,X⟩:=ahK L t p u v y (vf p y) T s O O A;have C:0<2^(Z a+1-Z d):=gQ D;have H:=oy (n+f+(8*f+28)+57) C;obtain⟨R,P⟩:∃R,R=(n+f+(8*f+28)+57)*2^(Z a+1-Z d):=⟨_,J⟩;rw[<-P]at M H;have K:oM a d m=[]/\f<=30000000\/oM a d m≠[]/\C8 k (Z d) (Z<|oM a d m) f R=ae:=by
   by_cases r0:oM a d m=[]
   .exact .inl ⟨r0,s⟩
   .have c:=bQ.2 r0;have o:=B (Z<|oM a d m)<|l3.2 U;rw[vE,<-P]at o;rcases o with o|o
    .exact absurd (eq_of_beq o) O
    .exact .inr ⟨r0,o⟩
  let ⟨q1,j,q,r,z⟩:=ahL L k d (oM a d m) f R p M v X lb O O K;rw[tH,w y,Gj];exact⟨.inr ⟨r1,q1⟩,j.step W,q,r,z⟩
def auG{l}{n}(a:l.getD n []≠[]):lA l (n+1)=n+1:=by rw[lA,w a]
def auH{l}(g:gJ l):jQ l=l:=by
 by_cases a:l=[]
 .subst a;rfl
 .have:=bQ.2 a;obtain⟨n,d⟩:∃n,Z l=n+1:=⟨Z l-1,O⟩;have f:=g.resolve_left a;rw[d,eK]at f;rw[jQ,d,auG f,<-d,fR]
def auI{m}(g:df m){a}{t}(i:∀k∈a,Ez m t k)(l:gJ a)(n:7<=t)(o:a≠[]):jw (iW (a.getD (Z a-1) []) m) m a=eo a m:=by
 have p:gJ (eo a m):=by
  rcases Gd g i l n with d|d
  .exact .inl d
  .exact .inr (by rw[d];decide)
 rw[<-auH p,eo,w o,AD,jw];exact be jQ<|be (λf=>a.map f)<|funext λx=>agU _ _ _
def auJ{m}(o:df m){a p g}{k}(d:Gj m k a p)(B:tH m k a p=g)(u:∀n∈g,Ez m 30000000 n)(H:gJ g)(P:Z g<=4):r q 53 [I LQ a,I LQ p,I .q m] (I LQ<|eo g m):=by
 refine aI Tryz.func53 ?_;refine N J<|j<|au<|a8 (α:=Y×V (V e)×V (V e)) (λx=>⟨[(0,I LQ x.2.1),(1,I LQ x.2.2),(2,I .q m)],[],10,[]⟩) (λx=>Gj m x.1 x.2.1 x.2.2/\tH m x.1 x.2.1 x.2.2=g) (λx=>x.1) (k,a,p) ⟨d,B⟩ aM ?_;clear d B;rintro⟨l,x,y⟩ ⟨h2,f⟩;simp only at h2 f;refine j<|N J<|al J (λi=>?_)<|λi=>?_
 .have v:y≠[]:=λn=>by subst n;cases i
  clear i;cases l with
  |zero=>exact absurd h2 v
  |succ l=>
   rw[Gj]at h2
   rcases h2 with h2|⟨c1,M⟩
   .exact absurd h2 v
   rw[tH,w v]at f
   generalize oM x y m=R at*
   exact cP<|aL<|au<|F<|rc J J c1<|z J<|N J<|rt J<|eE<|aT (l,y,R) ⟨M,f⟩ (dK l) aM
 .have i:y=[]:=by have i:¬(Z y:G)>0:=a6 i;exact eT O
  subst i;have f:x=g:=by
   cases l with
   |zero=>exact f
   |succ l=>rwa[tH,b J]at f
  subst f;refine a7<|aL<|j<|N J<|al J (λd=>?_)<|λd=>aD ?_
  .have d:(Z x:G)=0:=eq_of_beq d;rw[eo,b<|eT O];exact N J<|bL<|cK<|ig cv J<|bl.nil _
  .have s:x≠[]:=λn=>by subst n;cases d
   have Q:=bQ.2 s;have C:=vf u s;have K:=H.resolve_left s;have A:=ahI o C K D D;have L:=PD o (C5 o C K D).2 u D D O;rw[auI o u H D s]at L;have A:r q 15 [I .q (x.getD (af<|(Z x:G)-1) []),I .q m] (.t [(ah,[.S .q (iW (x.getD (Z x-1) []) m)]),(ah,[.I .i64 0])]):=by rw[(O:af ((Z x:G)-1)=Z x-1)];exact A
   exact F<|rc J J A (z J<|F<|rc J J L<|z J<|cw J) (hp:=aF)
def auK{m}{a d}(i:df m)(v:∀f∈a,Ez m 339 f)(y:∀f∈d,Ez m 339 f)(A:gJ a)(kb:gJ d)(s:Z a<=4)(t:Z d<=4):
  ∃g,r q 53 [I LQ a,I LQ d,I .q m] (I LQ g)/\Gk m a d g/\(∀f∈g,Ez m 300000000 f)/\Z g<=4:=by
 have o:d=[]/\339<=30000000\/d≠[]/\C8 6 (Z a) (Z d) 339 339=ae:=by
  by_cases f:d=[]
  .exact .inl ⟨f,D⟩
  .exact .inr ⟨f,auF s t⟩
 let ⟨r1,p,k,l,u⟩:=ahL i 6 a d 339 339 v y A kb s t D o
 refine⟨_,auJ i r1 J k l u,⟨Gd i k l D,?_,?_,?_⟩,λf B=>(J8 i k l D D f B).le D,by rw[Gc];exact u⟩
 .exact(PK i _).trans λx n=>by subst n;exact p.gen
 .exact p.da.trans λx n=>by subst n;exact Ge i k l D
 .exact p.db.trans λx n=>by subst n;exact Ge i k l D
def Ww{m}(H:df m){a f i l g n}{t u}(L:∀s∈g,Ez m t s)(v:∀s∈n,Ez m u s)(o:Gk m a f g)(p:Gk m i l n)(M:Sp (lx m) (mz a f) (kx i))(s2:Sp (lx m) (mz a f) (kx l))(P:Sp (lx m) (mz i l) (kx a))(Q:Sp (lx m) (mz i l) (kx f)):g=n:=by
 have k:∀{x:Fm},Sp (lx m) (mz a f) x->Sp (lx m) (iG g) x:=λ{x} d=>d.trans λy A=>by
  rcases A with rfl|rfl
  .exact o.da
  .exact o.db
 have B:∀{x:Fm},Sp (lx m) (mz i l) x->Sp (lx m) (iG n) x:=λ{x} d=>d.trans λy A=>by
  rcases A with rfl|rfl
  .exact p.da
  .exact p.db
 refine auu H L v o.top p.top ?_ ?_
 .exact p.gen.trans λx d=>by
   rcases d with rfl|rfl
   .exact k M
   .exact k s2
 .exact o.gen.trans λx d=>by
   rcases d with rfl|rfl
   .exact B P
   .exact B Q
def jd.a2{P}{f}{i x y}{xs}{a}(d:r P f (i::y::xs) a)(g:bl x y):r P f (i::x::xs) a:=
 ⟨d.call,d.iL,λH W vs k l=>d.spec H W vs k<|by obtain⟨v,a,rfl,m,n⟩:=l;obtain⟨o,p,rfl,s,t⟩:=n;exact⟨v,_,J,m,o,p,J,g.1 _ _ s,t⟩⟩
section
variable{m:V e}
def Wx(x y:V (V e))(m:V e):∀i,Z (oL x y m i)<=i-1+Z y
 |0=>aY _
 |i+1=>by have a:=ahe (oL x y m i)<|bc i []++jw (eF ((-1:G):e)<|x.getD i []) m y;have d:=Wx x y m i;have f:=J4 (eF ((-1:G):e)<|x.getD i []) m y;rw[iq,fo]at a;show Z (wO _ _)<=_;omega
def ahM(x y:V (V e))(m:V e):∀i,gJ (oL x y m i)
 |0=> .inl J
 |_+1=>J5 _
def Wy(f:df m){x}(g:∀d∈x,∀a∈d,lj a) k:∀a∈C4 x k m,Ez m 32 a:=λa i=>by obtain⟨d,l,rfl⟩:=iJ.1<|PE i;exact agS f<|g d<|vi l
def Wz x k m:Z (C4 x k m)<=k:=by have:=PF<|(c k x).map λr=>oG r<|Z m-2;rw[cy,eL]at this;show Z (jQ _)<=k;omega
def J9(a:df m){l}{t}(d:∀f∈l,Ez m t f)(g:gJ l)(s:Sp (lx m) (iG []) (kx l)):l=[]:=by
 refine ahD a d ?_ g;have:Sp (lx m) (λ_=>False) (kx l):=s.trans λx k=>by subst k;exact .nil λi=>by rw[lY (aY _)];exact dvd_zero _
 cases this with
 |nil h=>exact h
 |add _ _ _ h _=>exact h.elim
def WA{g}(a:yo g):gJ g:=by
 rcases a with a|a
 .exact .inl a
 .exact .inr (by rw[a];decide)
def Gk.nil(g:df m){a d}{t}(i:Gk m a d [])(k:∀f∈a,Ez m t f)(l:∀f∈d,Ez m t f)(n:gJ a)(kb:gJ d):a=[]/\d=[]:=⟨J9 g k n i.da,J9 g l kb i.db⟩
def Gk.auL(d:df m){g}{t}(a:Gk m [] [] g)(f:∀i∈g,Ez m t i):g=[]:=by refine J9 d f (WA a.top)<|a.gen.trans λx k=>?_;rcases k with rfl|rfl<;>exact Sp.of J
def PN{a b}(d:a<=4)(f:0<b):2^(a+1-b)<=16:=bm (eQ D (O:a+1-b<=4)) D
end
def auM k(cc:V G)(x0 x1 W:V (V<|G×G×G))(y:V (G×G×G))(hk:0<=k/\k<=255)(VO:∀x∈cc,-128<=x/\x<=127)(h0:∀bf∈x0,∀f∈bf,lj f)(h1:∀bf∈x1,∀f∈bf,lj f)(h2:∀bf∈W,∀f∈bf,lj f)(hy:∀f∈y,lj f):
  r q 8 [.a [.I .u8 k,.S I8 cc],.a [.S (.sl RW) x0,.S (.sl RW) x1,.S (.sl RW) W],I RW y] (cB ae):=by
 let ⟨m,hm,hF⟩:=as0 k cc hk VO
 have cL2:=Wh hm.l2 hm.l5 W h2 2 D
 have cL0:=Wh hm.l2 hm.l5 x0 h0 3 D
 have cL1:=Wh hm.l2 hm.l5 x1 h1 3 D
 have X:=Wy hm h2 2
 have zP:=Wy hm h0 3
 have zQ:=Wy hm h1 3
 have lC:=Wz W 2 m
 have lP:=Wz x0 3 m
 have lQ:=Wz x1 3 m
 have kC:gJ (C4 W 2 m):=J5 _
 have ce:=agq hm.l2 hm.l5 y hy
 have zT:Ez m 32 (oG y<|Z m-2):=agS hm hy
 generalize oG y (Z m-2)=T at*
 generalize C4 W 2 m=C at*
 generalize C4 x0 3 m=P at*
 generalize C4 x1 3 m=Q at*
 have cA:=ahg hm zP X D D O O
 have cB':=ahg hm zQ X D D O O
 have n:∀f∈oL P C m (Z P),Ez m 279 f:=λf K=>(PH hm zP X D (Z P) f K).le (by have:=eC (32+32+29) lP;omega)
 have zB:∀f∈oL Q C m (Z Q),Ez m 279 f:=λf K=>(PH hm zQ X D (Z Q) f K).le (by have:=eC (32+32+29) lQ;omega)
 have c:=Wx P C m<|Z P
 have w:=Wx Q C m<|Z Q
 have o:=ahM P C m<|Z P
 have L:=ahM Q C m<|Z Q
 have sA:=Wo hm P C<|Z P
 have sB:=Wo hm Q C<|Z Q
 generalize oL P C m (Z P)=A at*
 generalize oL Q C m (Z Q)=B at*
 have c:Z A<=4:=O
 have w:Z B<=4:=O
 have M:∀f∈A,Ez m 339 f:=λf K=>(n f K).le D
 have s:∀f∈B,Ez m 339 f:=λf K=>(zB f K).le D
 let ⟨g,cg,p,t,lg⟩:=Wu hm M s o L c w
 have kg:=WA p.top
 have u:=aub t g D O
 rw[o9 J]at u
 have oA:Sp (lx m) (mz A B) (kx A):=Sp.of<|.inl J
 have oB:Sp (lx m) (mz A B) (kx B):=Sp.of<|.inr J
 refine aI Tryz.func8 ?_
 refine N J<|bt J J at' J<|j<|N J<|al J (λh=>fE)<|λ_=>aD ?_
 refine F<|rc J J hF<|z J ?_
 refine F<|rc J J cL2<|z J ?_
 refine F<|rc J J cL0<|rc J J cA<|z J ?_
 refine F<|rc J J cL1<|rc J J cB'<|z J ?_
 refine F<|rc J J cg<|z J ?_
 refine jH ⟨[(2,I RW y),(7,cB ae),(8,I .q m),(9,I LQ C),(10,I LQ A),(11,I LQ B),(12,I LQ g)],[],30,[]⟩ ?_<|λl=>?_
 rotate_left
 .refine N J<|au<|a8 (α:=Y) (λi=>⟨[(2,I RW y),(7,cB ae),(8,I .q m),(9,I LQ C),(10,I LQ A),(11,I LQ B),(12,I LQ g),(13,R i)],[],20,[]⟩) (λi=>i<=Z g) (λi=>Z g-i) 0 (aY _) aM ?_;intro i hi;refine j (N J<|al J (λh=>?_)<|λh=>?_)
  .have h:i<Z g:=by have h:(i:G)<(Z g:G):=aU h;omega
   have zi:=AA (d:=([]:V e)) t h;have hv:r q 35 [I .q (g.getD (af<|(i:G)) [])] (cB ae):=by rw[bY];exact zi.1.att (k:=100000000) D D D
   refine aD<|j<|au<|F<|rc J J hv (rg 55 J J (λh=>fE)<|λ_=>z J (al J (λv=>?_)<|λv=>cP<|bw ?_) (hp:=aF)) (hp:=aF)
   .have v:((g.getD (af<|(i:G)) []).length:G)>=(Z m:G):=aU v;rw[bY]at v;exact absurd zi.2 O
   .exact rt J<|aT (i+1) h (O:Z g-(i+1)<Z g-i) aM
  .exact a7<|dB l aM
 refine Ml (λ_:Unit=>⟨[(2,I RW y),(7,cB ae),(8,I .q m),(9,I LQ C),(10,I LQ A),(11,I LQ B),(12,I LQ g)],[],40,[]⟩) (λ_=>¬(A=[]/\B=[])) (λ_ hn=>?_)<|λl=>?_
 rotate_left
 .refine F (rg 68 J J (λh=>?_)<|λh=>?_)
  .have h:(Z A:G)=0:=eq_of_beq h;have eA:A=[]:=eT O;refine z J (al J (λh2=>?_)<|λh2=>cP ?_)
   .have h2:(Z B:G)=0:=eq_of_beq h2;have eB:B=[]:=eT O;subst eA eB;have eg:=p.auL hm t;subst eg;exact F<|rg 74 J J (λ_=>z J<|bL<|cK<|atR J)<|λh=>fE
   .exact dB (l () λhh=>by rw[hh.2]at h2;cases h2) aM
  .exact z J<|al J (λh2=>mM)<|λ_=>cP<|dB (l () λhh=>by rw[hh.1]at h;cases h) aM
 have g0:g≠[]:=λf=>hn (by subst f;exact p.nil hm n zB o L)
 have C0:C≠[]:=λf=>hn (by subst f;exact⟨J9 hm n o sA,J9 hm zB L sB⟩)
 have E:=bQ.2 g0
 have hCl:=bQ.2 C0
 have H:=p.top.resolve_left g0
 have zl:Ez m 7 (g.getD (Z g-1) []):=by rw[H];exact Wr hm 7
 have pA:=PN c E
 have pB:=PN w E
 have pG:=PN lg hCl
 have d1:=PM hm n t o kg g0 zl D D O O (bm (fN _ pA) D) p.da
 have d2:=PM hm zB t L kg g0 zl D D O O (bm (fN _ pB) D) p.db
 have sg:Sp (lx m) (iG C) (kx g):=p.gen.trans λx hx=>by
  rcases hx with rfl|rfl
  .exact sA
  .exact sB
 have d3:=PM hm t X kg kC C0 (vf X C0) D D O O (bm (fN _ pG) D) sg
 let ⟨g2,c2,G2,z2,_⟩:=Wu hm s M L o w c
 have e2:g2=g:=Ww hm z2 t G2 p (Sp.of<|.inr J) (Sp.of<|.inl J) oB oA
 subst e2
 have s1:r q 16 [I .q (g2.getD (af<|(Z g2:G)-1) []),I .q [1]] (cB ae):=by rw[(O:af ((Z g2:G)-1)=Z g2-1)];exact zl.1.atu (k:=1) H D D D
 refine j<|N J<|al J (λh=>?_)<|λ_=>aD ?_
 .have h:(Z g2:G)=0:=eq_of_beq h;exact absurd h O
 refine j<|F<|rl I8 [1] J J (rc J J ats<|rc J J s1<|rg 92 J J (λh=>fE)<|λ_=>?_) (hp:=aF)
 refine jV J J J J J d1<|rg 99 J J (λh=>fE)<|λ_=>?_
 refine jV J J J J J d2<|rg 106 J J (λh=>fE)<|λ_=>?_
 refine jV J J J J J d3<|rg 113 J J (λh=>fE)<|λ_=>?_
 refine jV J J J J J c2<|jV J J J J J u<|z J ?_
 refine al J (λh=>fE)<|λ_=>aD ?_
 refine F<|rc J J ce<|z J ?_
 refine Ml (λ_:Unit=>⟨[(7,cB ae),(8,I .q m),(10,I LQ A),(11,I LQ B),(12,I LQ g2)],[],60,[]⟩) (λ_=>True) (λ_ _=>?_)<|λl=>?_
 rotate_left
 .refine F (rg 128 J J (λh=>?_)<|λh=>?_)
  .have T0:T≠[]:=λf=>by subst f;cases h
   have cS':=PD hm zT n D D O;have zS:=PG hm zT n D;have kS:gJ (jw T m A):=J5 _;have lS:=J4 T m A;let ⟨g3,c3,G3,z3,_⟩:=Wu hm zS s kS L O w;have e3:g3=g2:=by
    refine Ww hm z3 t G3 p ?_ (Sp.of<|.inr J) ?_ oB
    .have hi:=(C5 hm zT T0 D).1;have s5:Sp (lx m) (mz (jw T m A) B) (kx<|jw T m A):=Sp.of<|.inl J;refine(s5.qP<|lx<|iW T m).og λU=>?_
     have h5:lx m∣lx (iW T m)*kx (jw T m A) U-lx (iW T m)*(lx T*kx A U):=nA (fP _ _)<|J6 hm T A U;have h6:lx m∣lx (iW T m)*lx T*kx A U-1*kx A U:=nA hi.2.2<|fP _ _;rw[Rx.one_mul,Rx.mul_assoc]at h6;exact nz<|lT h5 h6
    .exact(oA.qP<|lx T).og λU=>J6 hm T A U
   subst e3;refine jV J J J J J cS'<|jV J J J J J c3<|jV J J J J J u<|z J ?_;exact al J (λh=>fE)<|λ_=>cP<|dB (l () aX) aM
  .exact z J<|al J (λh=>fE)<|λ_=>cP<|dB (l () aX) aM
 have cN:r q 49 [I LQ A,I LQ [],I .q m] (I LQ<|eo A m):=ahE (k:=1) (.inl J) (by rw[tF,b J]) (PL hm n o D D O)<|Ws m
 have cN:=cN.a2<|bl.nil LQ
 let ⟨g4,c4,G4,z4,_⟩:=auK hm M s o L c w
 have e4:g4=g2:=Ww hm z4 t G4 p oA oB oA oB
 subst e4
 have EW:=Gc A m
 refine F<|rc J J cN<|z J ?_
 refine F<|rg 144 J J (λ_=>?_)<|λh=>fE
 refine jV J J J J J c4<|jV J J J J J u<|rg 152 J J (λ_=>?_)<|λh=>fE
 refine rg 156 J J (λh=>?_)<|λh=>?_
 .have h:(Z A:G)=0:=eq_of_beq h;have eA:A=[]:=eT O;refine rg 161 J J (λ_=>rsk 10 J<|z J<|cw J)<|λh2=>?_;have h2:(Z (eo A m):G)≠0:=ne_of_beq_false h2;exact absurd h2 O
 .have A0:A≠[]:=λf=>by rw[f]at h;cases h
  have hAl:=bQ.2 A0;have M0:eo A m≠[]:=λf=>by rw[f,nb]at EW;omega
  have mt:=Gd hm n o D;have zM:=J8 hm n o D D;have zl2:Ez m 7 ((eo A m).getD (Z (eo A m)-1) []):=by rw[mt.resolve_left M0];exact Wr hm 7
  have pM:=PN (b:=Z<|eo A m) c O;have d4:=PM hm n zM o (WA mt) M0 zl2 D D O O (bm (fN _ pM) D)<|Ge hm n o D;refine rg 161 J J (λh=>fE)<|λ_=>?_;refine rg 167 J J (λ_=>?_)<|λv=>?_
  .exact jV J J J J J d4<|z J<|cw J
  .have v:(Z (eo A m):G)≠(Z A:G):=ne_of_beq_false v;exact absurd v O
end Go.El
