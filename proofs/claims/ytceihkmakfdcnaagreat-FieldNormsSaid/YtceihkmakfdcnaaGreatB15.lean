/- Closed calls as a table. Own work; no condition. -/
import Derived.OpenShut
import Derived.SizedLaws
import Derived.Test.YtceihkmakfdcnaaGreatB14
import Derived.Test.YtceihkmakfdcnaaGreatB6
import Derived.Test.YtceihkmakfdcnaaGreatB12
import Derived.Test.YtceihkmakfdcnaaGreatB11
import Derived.Test.YtceihkmakfdcnaaGreatB3
import Derived.Test.YtceihkmakfdcnaaGreatB1
set_option linter.all false
set_option maxHeartbeats 16000000
set_option maxRecDepth 100000
open Bool renaming true->ae,false->ah
open Go renaming Program->bI,TypeId->dH,Value->aR,DataW->AA
open Go.Addr renaming add->WL
open Go.DataW renaming trod->mh,weightsEach->C9,weightsAll->P2,weights->WM
open Go.El renaming rr->e,cS->S,K0->F,re->z,dj->j,cI->O,rb->R
open Go.Proofs.Tryz renaming prog->c
open Int renaming natAbs->aA
open List renaming replicate->bl,length->Z,getD->I,take->M,mapM_nil->ahd,drop->ay,range->cw
open Option renaming some->ad
open _root_ renaming List->E,Int->Y,Nat->V
namespace Go.El
open Go Go.Proofs Go.RowKit
abbrev Cl:=FuncId×E AV×AV
noncomputable def Gg(l:E Cl)(f:FuncId)(vs:E AV)(a:Ms):Option (E AV×AV):=List.rec (motive:=λ_=>Option<|E AV×AV) (WG f vs a)
 (λe _ b=>match Nat.beq f e.1 with
  |true=>(match rE (λd=>bw d a) vs e.2.1 with
   |true=>ad (e.2.1,e.2.2)
   |false=>b)
  |false=>b) l
def PW:E Cl->Prop
 |[]=>True
 |a::b=>ao c a.1 a.2.1 a.2.2/\PW b
def PX:∀{l:E Cl},PW l->∀f vs b a d,Gg l f vs b=ad (a,d)->ao c f a d
 |[],_,f,vs,b,a,d,h=>atu f vs b a d h
 |i::l,hl,f,vs,b,a,d,h=>by
  have g:(match Nat.beq f i.1 with
   |true=>(match rE (λm=>bw m b) vs i.2.1 with
    |true=>ad (i.2.1,i.2.2)
    |false=>Gg l f vs b)
   |false=>Gg l f vs b)=ad (a,d):=h
  split at g
  .rename_i k;have k:=kO k;split at g
   .simp only[aq,bK]at g;obtain⟨rfl,rfl⟩:=g;rw[k];exact hl.1
   .exact PX hl.2 f vs b a d g
  .exact PX hl.2 f vs b a d g
def iE{l}(b:PW l){f}{vs}{a}(h:aad a (sS c dP (Gg l) (iM c dP (Gg l) 100000) f vs [] 0)=ae)(d:cM vs=[])(g:a.ak=[]):ao c f vs a:=
 ald MX cv (PX b) 100000 h d g
def PY{l}(b:PW l){f}{vs}{a}(h:SW c dP (Gg l) 100000 200 200 f vs a=ae)(d:cM vs=[])(g:a.ak=[]):ao c f vs a:=
 alW MX cv (PX b) 100000 200 200 h d g
def qI(n:Y):Rat:=Rat.ofInt n
abbrev uP(l:E Rat):AV:= .c<|.S .q l
abbrev zP(l:E Y):AV:= .c<|.S .z l
abbrev oI(l:E (E Y)):AV:= .c<|.S (.sl .z) l
abbrev pL(l:E (E Y×Y)):AV:= .c<|.S (.pr (.sl ar) ar) l
abbrev PQ:Y:=1073741827
open Rx
def oJ(a b:E Rat):V->E Rat
 |0=>bl (Z a+Z b-1) 0
 |i+1=>jD (oJ a b i) (I a i 0) b i
def WH(a b:E Rat):∀i,Z (oJ a b i)=Z a+Z b-1
 |0=>fY
 |i+1=>by rw[oJ,jD,ns,WH a b i]
def ag7 a i:lx (M (i+1) a)=lx (M i a)+K (I a i 0)*X i:=ext λj=>by
 rw[eo,dZ,rX,fj,fj,F1,F1];by_cases h:j=i
 .subst h;rw[q G,y G,q J];grind
 .rw[y h];by_cases h2:j<i
  .rw[q G,q h2];grind
  .rw[y G,y h2];grind
def WI{a b:E Rat}:∀i,i<=Z a->lx (oJ a b i)=lx (M i a)*lx b
 |0,_=>by rw[oJ,Fl,pj,Rx.zero_mul];exact ext λi=>JJ _ i
 |i+1,h=>by rw[oJ,JN _ (by rw[WH];omega),WI i G,ag7,Rx.add_mul,Rx.mul_assoc]
def atv a b:fI (oJ a b<|Z a)=ml a b:=rY (k6 _) (JT a b) (by rw[r9,WI _<|aT _,gQ,F5])
def atw{n m t u s}{a b}(l:Pz n t a)(o:Pz m u b)(P:n<=16)(Q:m<=400)(p:t+u+4<32*s)(T:s<=100000000000):ao c 67 [S .q a,S .q b] (S .q<|ml a b):=by
 refine aL Tryz.func67 ?_;have W:=l.len;have r:=o.len;refine e J<|j<|R<|rg 11 J J (λh=>?_)<|λh=>?_
 .have h:a=[]:=by have h:(a.length:Y)=0:=eq_of_beq h;exact gK G
  subst h;rw[aeK];exact z J<|F J (λ_=>e J<|bV<|cQ<|iJ cv J<|bg.nil .q)<|λh=>fR
 refine z J<|F J (λk=>?_)<|λk=>aE ?_
 .have h:b=[]:=by have h:(b.length:Y)=0:=eq_of_beq k;exact gK G
  subst h;rw[aeL];exact e J<|bV<|cQ<|iJ cv J<|bg.nil .q
 have y:0<a.length:=by have h:(((a.length:V):Y)==0)=ah:=h;rw[beq_eq_false_iff_ne]at h;omega
 have E:0<b.length:=by have h:(((b.length:V):Y)==0)=ah:=k;rw[beq_eq_false_iff_ne]at h;omega
 clear h k;have w:oz c 118 [O ((a.length:Y)+(b.length:Y)-1)] 44 .q (bl (a.length+b.length-1) 0):=by rw[(G:(a.length:Y)+(b.length:Y)-1=((a.length+b.length-1:V):Y))];exact OV _ G
 refine R<|BT J J w (z J<|j<|e J ?_) (hp:=aF);refine az<|bq (α:=V) (λi=>⟨[(1,S .q b),(5,.c<|.X 2006000),(23,S .q a),(24,O a.length),(25,O i)],[(2006000,.vec 44 .q<|oJ a b i)],4,[]⟩) (λi=>i<=a.length) (λi=>a.length-i) 0 (bf _) (wk (bM J) ⟨bE J J,A⟩) ?_;intro i x;have B:=WH a b i;have C:∀d,QS s ((oJ a b i).getD d 0):=λd=>by
  have H:Ht (2^(t+u+4)) (lx<|oJ a b i):=by rw[WI i x,<-JS];let ⟨K,d1,d2,d3⟩:=l.ht;refine Ht.mul (n:=2^4) ⟨K,d1,d2,d3.take i⟩ o.ht ?_ D;have:=N7<|a.take i;rw[gL]at this;omega
  exact H.qs (nt p) d
 refine e J<|j<|F J (λh=>?_)<|λh=>?_
 .have h:i<a.length:=by have h:(i:Y)<(a.length:Y):=aW h;omega
  have f:=OX (s:=s) G (oJ a b i) (a.getD i 0) b i G G C (l.qs G i)<|λd=>o.qs G d;have L:((i:Y)).toNat=i:=cr i;rw[show jD (oJ a b i) (a.getD i 0) b i=oJ a b (i+1)from J]at f;have g:uy c 119 [.c (.X 0),aQ<|a.getD ((i:Y)).toNat 0,S .q b,O i] 44 .q (oJ a b i) (.t []) (oJ a b<|i+1):=by rw[L];exact f
  refine aE<|j<|az<|e J (cK<|zq 2006000 J g J J<|z J<|bL<|rt J (hp:=aF)<|a4 (i+1) h (G:a.length-(i+1)<a.length-i)<|wk ⟨sR J,sR J,sR J,sR J,sE J ?_,A⟩ ⟨bR J,A⟩) (hp:=aF);exact jb (G:(i:Y)+1=((i+1:V):Y))
 .have h:i=a.length:=by have h:¬(i:Y)<(a.length:Y):=bc h;omega
  subst h;have v:=JH (oJ a b a.length) G;rw[atv]at v;exact bt<|aK<|da 2006000 J J J<|bH J J v J<|c7 J
def atx:ao c 74 [S .q [],S .q []] (S .q []):=iE (l:=[]) A eL J J
def aty a b:fI (yi a (-1) b)=sb a b:=rY (k6 _) (k6 _) (by rw[r9,aqg,aeJ,N5,qM,Rx.neg_mul,Rx.one_mul,sub_def])
def atz{s}(d:1<=s)(f:s<=200000000000) a b(g:Z a<=1000)(k:Z b<=1000)(l:∀i,QS s (I a i 0))(m:∀i,QS s (I b i 0)):ao c 74 [S .q a,S .q b] (S .q<|sb a b):=by
 by_cases h:0<max (Z a) (Z b)
 .rw[<-aty];exact apN d f a b g k h l m
 .have n:a=[]:=gK G;have o:b=[]:=gK G;subst n o;exact atx
def Pz.atB{n m t u s}{a b}(d:Pz n t a)(f:Pz m u b)(i:n<=500)(k:m<=500)(g:t<32*s)(h:u<32*s)(l:s<=100000000000):ao c 74 [S .q a,S .q b] (S .q<|sb a b):=
 atz G G a b (b6 d.len G) (b6 f.len G) (d.qs g) (f.qs h)
def atC b a:fI (vd b a)=jd b a:=rY (k6 _) (k6 _) (by rw[r9,aer,JO])
def Pz.atD{n t s}{a}{b}(d:Pz n t a)(f:QS s b)(h:n<=500)(g:t<32*s)(i:s<=100000000000):ao c 75 [aQ b,S .q a] (S .q<|jd b a):=by rw[<-atC];exact apL G G b a (b6 d.len G) f<|d.qs g
def atF{s}(f:1<=s)(g:s<=100000000000){a b}(i:b≠[])(h:CR s a b):ao c 65 [S .q a,S .q b] (.t [(ah,[.S .q (jr a b)]),(ah,[.S .q (fK a b)]),(ah,[.I .i64 0])]):=by
 have k:=cR.2 i;have l:=h.la;have m:=h.lb;by_cases d:Z a<Z b
 .rw[fK,jr,q d,q d];exact apT a b d G
 .rw[fK,jr,y d,y d];exact apQ f g a b (Z b-1) (Z a+1-Z b) G G G G h.bn h.qb h.qS
def Pz.atG{n m t u d s}{a b}(g:Pz n t a)(h:Pz m u b)(f:b≠[])(i:Z a+1-Z b<=d)(k:n<=500)(l:m<=500)(o:t+u+(u+1)*d<32*s)(p:s<=100000000000):ao c 65 [S .q a,S .q b] (.t [(ah,[.S .q (jr a b)]),(ah,[.S .q (fK a b)]),(ah,[.I .i64 0])]):=
 atF G p f (g.euS h f i k l o)
def Pz.atH{n m t u d s}{a b}(f:Pz n t a)(g:Pz m u b)(h:b≠[])(i:Z a+1-Z b<=d)(k:n<=500)(l:m<=500)(o:t+u+(u+1)*d<32*s)(p:s<=100000000000):ao c 17 [S .q a,S .q b] (S .q<|fK a b):=by refine aL Tryz.func17 ?_;exact e J<|R<|rc J J (f.atG g h i k l o p)<|z J<|e J<|c7 J
def fm(a b m:E Rat):E Rat:=fK (ml a b) m
def Pz.ag8{n m k t u v d s}{a b f}(g:Pz n t a)(h:Pz m u b)(o:Pz k v f)(p:f≠[])(i:n<=16)(w:m<=400)(H:k<=400)(L:Z a+Z b-1+1-Z f<=d)(x:t+u+4+v+(v+1)*d<32*s)(l:s<=100000000000):ao c 19 [S .q a,S .q b,S .q f] (S .q<|fm a b f):=by refine aL Tryz.func19 ?_;have B:=g.mul h i;have:=VJ g.can h.can;have C:=B.atH o p (d:=d) G G G x l;exact e J<|R<|rc J J (atw g h i w G l)<|rc J J C<|z J<|c7 J
def Pz.fm{n m k t u v d}{a b f}(g:Pz n t a)(h:Pz m u b)(i:Pz k v f)(l:f≠[])(o:n<=16)(p:Z a+Z b-1+1-Z f<=d):Pz k (t+u+4+(v+1)*d) (El.fm a b f):=by have:=VJ g.can h.can;exact(g.mul h o).rem i l G
def WJ{a b d}(f:bU d)(g:d≠[]):lx d∣lx (fm a b d)-lx a*lx b:=by rw[<-F5];exact aeN f g
def Rx.Ht.inv{b k}{a}(h:Ht b a)(d:a k≠0):Ht b (K (a k)⁻¹):=by
 let ⟨D,g,h2,l⟩:=h;let ⟨z,m,f⟩:=l k;have n:z≠0:=λe=>by
  subst e;have:(D:Rat)*a k=0:=f;rcases zX.1 this with h|h
  .exact Ao g h
  .exact d h
 refine⟨z,n,m,λi=>?_⟩;rw[lE];split
 .refine⟨D,h2,?_⟩;rw[<-f,l7,Rat.mul_inv_cancel _ d,nr]
 .exact⟨0,bf _,dY _⟩
def Rx.Ht.one{a}(h:1<=a):Ht a (K 1):=⟨1,D,h,λi=>by
 rw[lE];split
 .exact⟨1,h,nr _⟩
 .exact⟨0,bf _,dY _⟩⟩
def Rx.Ht.Az{t s}{a}(h:Ht (2^t) (K a))(b:t<32*s):QS s a:=by have:=h.qs (nt b) 0;rwa[lE,q J]at this
def atI:lx [1]=1:=I7 1
def WK:bU [(1:Rat)]:= .inr (D:(1:Rat)≠0)
def atJ n t(a:1<=n):Pz n t [1]:=⟨WK,a,by rw[I7];exact Ht.one<|km D⟩
def atL{m a}(d:bU m)(f:bu (lx m))(b:bU a)(g:a≠[])(i:Z a<Z m):Co (lx m) (lx a):=by
 rcases f.or (lx a)with h|h
 .have:=jK h<|CS b g;rw[fS d,fS b]at this;omega
 .exact h
def ag9{a}{n d}(b:d≠0)(f:aA n<=2^a)(g:aA d<=2^a):Ht (2^a) (K<|Rat.divInt n d):=⟨d,b,g,λi=>by
 rw[lE];split
 .refine⟨n,f,?_⟩;rw[Oi];have:=Ao b;rw[uW,zS,l7,nq _ this,nr]
 .exact⟨0,bf _,dY _⟩⟩
def Rx.Ht.X1{a}{b}(h:Ht a b):Ht a (X 1*b):=by
 let ⟨D,d,h2,f⟩:=h;refine⟨D,d,h2,λi=>?_⟩;rw[mL];split
 .exact f _
 .exact⟨0,bf _,dY _⟩
def ag'{a:V}:∀{l:E Rat},(∀x∈l,Ht (2^a) (K x))->Ht (2^((a+1)*Z l)) (lx l)
 |[],_=>by rw[pj];exact Ht.zero<|km D
 |b::l,h=>by rw[N6];have d:=(h b ax).add (ag' (a:=a) (l:=l) λx f=>h x<|lL _ f).X1;refine d.le ?_;have:=JS a ((a+1)*Z l) 1;rw[Nat.pow_one]at this;rw[this,iI,zO,oW];exact eZ D G
def atM{a}{l}{b}(h:∀x∈l,Ht (2^a) (K<|oG x)):Pz (b+1) ((a+1)*(b+1)) (Aq l b):=by have d:Z ((M (b+1) l).map oG)<=b+1:=F6;refine⟨k6 _,b6 (An _) d,?_⟩;rw[Aq,r9];refine(ag' (a:=a) λx f=>?_).le<|eZ D<|jk _ d;obtain⟨y,g,rfl⟩:=kF.1 f;exact h y<|EX g
def atN{l}{most}(h:∀x∈l,mR x):Pz (most+1) (8*(most+1)) (wK l most):=atM (a:=7) λx f=>by
 obtain⟨b,d,rfl⟩:=kF.1 f;have d:=h b d;refine ag9 (VK<|afF d) ?_ ?_
 .have:Ap (ym b)=b.1:=y (D:¬(0:Y)%8=7);rw[this];have:=d.1;omega
 .have:wI (ym b)=oF b.2.1:=y (D:¬(0:Y)%8=6);rw[this];unfold oF;have:=d.2.1;split<;>omega
def aha{n a}{b}(h:aG n b)(d:32*n<=a):aA b<=2^a:=by
 have:(4294967296:V)^n=2^(32*n):=by rw[(D:(4294967296:V)=2^32),<-Cj]
 unfold aG at h;rw[this]at h;exact b6 (BZ h)<|eZ D d
def e9.pz{m}(h:e9 m):Pz 5 7 m:=⟨h.can,h.l5,h.ht⟩
def e9.ne{m}(h:e9 m):m≠[]:=λe=>by have:=h.l2;rw[e]at this;cases this
def ahb{m}(h:e9 m){l}(a:∀x∈l,mR x):Pz 4 32 (wK l<|Z m-2)/\Z (wK l<|Z m-2)<Z m:=by have b:=h.l2;have d:=h.l5;have p:=atN (most:=Z m-2) a;exact⟨p.le G G,by have:=p.len;omega⟩
def Pz.Jt{n m t u k}{a b}(d:Pz n t a)(f:Pz m u b)(g:n<=1000)(h:m<=1000)(i:t<32*k)(l:u<32*k)(o:k<=500000000000):ao c 36 [S .q a,S .q b] (S .q<|kD a b):=
 O' a b (b6 d.len g) (b6 f.len h) (d.qs i) (f.qs l) o
def ahc{a b m}{t u}(h:e9 m)(f:Pz 12 t a)(g:Pz 12 u b)(l:Z a<Z m)(n:Z b<Z m)(o:t+u+200<3200000000000):Pz 4 (t+u+28) (fm a b m)/\(fm a b m).length<Z m/\lx m∣lx (fm a b m)-lx a*lx b/\ao c 19 [S .q a,S .q b,S .q m] (S .q<|fm a b m):=by have p:=h.l5;have v:=h.l2;have i:=Ak (a:=ml a b) h.ne;have k:=Pz.fm f g h.pz h.ne (d:=3) D G;refine⟨⟨k.can,?_,k.ht.le<|eZ D G⟩,i,WJ h.can h.ne,f.ag8 g h.pz h.ne (d:=3) (s:=100000000000) D D D G G D⟩;show(fm a b m).length<=4;have:(fm a b m).length<Z m:=i;omega
end Go.El
namespace Go.El
open Go Go.Proofs Go.RowKit
def PZ(P:bI):V->E Field->Bool
 |_,[]=>ae
 |off,f::a=>decide (f.offset=off)&&PZ P (off+P.cellsOf f.type) a
def yx(P:bI):E dH->V
 |[]=>0
 |t::a=>P.cellsOf t+yx P a
def wQ(P:bI):V->ET->E dH->Bool
 |0,_,_=>ah
 |_+1,_,[]=>ah
 |f+1,T,[t]=>(match P.underlying t with
  |some (.int k)=>(match T with
   | .int d=>decide<|d=k
   |_=>ah)
  |some .bool=>(match T with
   | .bool=>ae
   |_=>ah)
  |some (.slice a)=>(match T with
   | .sl b=>wQ P f b [a]&&decide (P.cellsOf a=b.n)&&decide (b.n<=P.bytesOf a)
   |_=>ah)
  |some (.struct fs)=>wQ P f T (fs.toList.map (·.type))&&PZ P 0 fs.toList&&decide (yx P (fs.toList.map (·.type))=P.cellsOf t)
  |some (.array n a)=>wQ P f T (bl n a)&&decide (yx P (bl n a)=P.cellsOf t)
  |_=>ah)
 |f+1,T,t::g::h=>(match T with
  | .pr i B=>wQ P f i [t]&&wQ P f B (g::h)
  |_=>ah)
def wR:(T:ET)->T.den->Prop
 | .int k,n=>(Lit.int k n).wf=ae
 | .bool,_=>True
 | .z,_=>False
 | .q,_=>False
 | .sl T,xs=>∀x∈xs,wR T x
 | .pr a B,x=>wR a x.1/\wR B x.2
def P0{g m:Type}{f:g->Option m}:∀{l:E g}{d:E m},l.mapM f=ad d->Z d=Z l/\∀(i:V)(x:g),l[i]? =ad x->∃n,d[i]? =ad n/\f x=ad n
 |[],d,h=>by simp only[ahd]at h;cases h;exact⟨J,λi x hx=>by simp at hx⟩
 |a::l,d,h=>by
  rw[GY]at h;cases k:f a with
  |none=>rw[k]at h;cases h
  |some b=>
   rw[k]at h
   cases hl:l.mapM f with
   |none=>rw[hl]at h;cases h
   |some s=>
    rw[hl]at h
    cases h
    let ⟨h1,h2⟩:=P0 hl
    refine⟨z4,λi x hx=>?_⟩
    cases i with
    |zero=>simp only[mX,aq]at hx;subst hx;exact⟨b,J,k⟩
    |succ i=>simpa using h2 i x D9
section
variable{H:Type}{enc:dH×aR->H}{P:bI}{w:World}{base:V}{spare:V->Bool}{held:Bool}
def P1(enc:dH×aR->H)(P:bI)(w:World)(base:V)(spare:V->Bool)(held:Bool):E dH->E aR->E (AA H)->Prop
 |[],cs,ds=>cs=[]/\ds=[]
 |t::h,cs,ds=>∃b f d g,cs=b++f/\ds=d::g/\(∃a ps,mh enc P w base spare held a t b=ad (d,ps))/\P1 enc P w base spare held h f g
def ahe{a:V}{d:E aR}:∀{g:E Field}{off:V}{xs:E (AA H×E MemPlace)},PZ P off g=ae->Z d=off+yx P (g.map (·.type))->
  (g.mapM λf=>mh enc P w base spare held a f.type<|(ay f.offset d).take<|P.cellsOf f.type)=ad xs->P1 enc P w base spare held (g.map (·.type)) (ay off d) (xs.map (·.1))
 |[],off,xs,_,hl,h=>by simp only[ahd]at h;cases h;simp only[C5,yx]at hl⊢;exact⟨tK G,J⟩
 |f::g,off,xs,k,hl,h=>by
  simp only[PZ,cD,decide_eq_true_eq]at k;rw[GY]at h;simp only[gJ,yx]at hl;cases i:mh enc P w base spare held a f.type ((ay f.offset d).take<|P.cellsOf f.type)with
  |none=>rw[i]at h;cases h
  |some b=>
   rw[i]at h
   cases hm:(g.mapM λf=>mh enc P w base spare held a f.type<|(ay f.offset d).take<|P.cellsOf f.type)with
   |none=>rw[hm]at h;cases h
   |some s=>
    rw[hm]at h
    cases h
    have l:=ahe (off:=off+P.cellsOf f.type) k.2 G hm
    rw[k.1]at i
    refine⟨(ay off d).take<|P.cellsOf f.type,ay (off+P.cellsOf f.type) d,b.1,s.map (·.1),?_,J,⟨a,b.2,i⟩,l⟩
    rw[<-pY,sI]
def ahf{d n:V}{a:dH}{f:E aR}:∀{m k:V}{xs:E (AA H×E MemPlace)},k+m=n->Z f=n*P.cellsOf a->
  ((List.range' k m).mapM λi=>mh enc P w base spare held d a<|(ay (i*P.cellsOf a) f).take<|P.cellsOf a)=ad xs->P1 enc P w base spare held (bl m a) (ay (k*P.cellsOf a) f) (xs.map (·.1))
 |0,k,xs,l,hl,h=>by simp only[List.range'_zero,ahd]at h;cases h;exact⟨tK (by rw[hl,<-l];exact aT _),J⟩
 |m+1,k,xs,l,hl,h=>by
  rw[Df,GY]at h;cases g:mh enc P w base spare held d a ((ay (k*P.cellsOf a) f).take<|P.cellsOf a)with
  |none=>rw[g]at h;cases h
  |some b=>
   rw[g]at h
   cases hm:((List.range' (k+1) m).mapM λi=>mh enc P w base spare held d a<|(ay (i*P.cellsOf a) f).take<|P.cellsOf a)with
   |none=>rw[hm]at h;cases h
   |some s=>
    rw[hm]at h
    cases h
    have o:=ahf (k:=k+1) G hl hm
    refine⟨(ay (k*P.cellsOf a) f).take<|P.cellsOf a,ay ((k+1)*P.cellsOf a) f,b.1,s.map (·.1),?_,J,⟨d,b.2,g⟩,o⟩
    rw[PI,<-pY,sI]
def ahg{b:dH}:∀{n:V}{a:E (AA H)},Z a=n->C9 P (bl n b) a=P2 P b a
 |0,[],_=>rfl
 |n+1,d::a,h=>by simp only[yS,C9,P2];rw[ahg (n:=n) eh]
def ahh{b:dH}{d:AA H}:∀{a:E (AA H)},d∈a->∀n∈d.weights P b,n∈P2 P b a
 |x::a,h,n,f=>by
  simp only[P2,be];rcases bZ.1 h with rfl|h
  .exact .inl f
  .exact .inr<|ahh h n f
def atO{b a}i d:WL (WL ⟨b,a,none⟩ i) d=⟨b,a+i+d,none⟩:=by unfold WL;split<;>split<;>simp_all
def ahi(a:dH):∀n,yx P (bl n a)=n*P.cellsOf a
 |0=>by simp[yx]
 |n+1=>by rw[yS,yx,ahi a n,PI,Lf]
section
variable{t:dH}{c:E aR}{fuel:V}{d:AA H}{ps:E MemPlace}
def trod_bool(a:P.underlying t=ad .bool)(h:mh enc P w base spare held (fuel+1) t c=ad (d,ps)):∃b,c=[.bool b]:=by
 unfold mh at h;rw[a]at h;rcases c with _|⟨v,_|⟨v2,r⟩⟩
 .simp at h
 .cases v<;>first| (simp at h;done)|exact⟨_,rfl⟩
 .cases v<;>simp at h
def trod_int{k}(a:P.underlying t=ad (.int k))(h:mh enc P w base spare held (fuel+1) t c=ad (d,ps)):∃n,c=[.int k n]/\(Lit.int k n).wf=ae:=by
 unfold mh at h;rw[a]at h;rcases c with _|⟨v,_|⟨v2,r⟩⟩
 .simp at h
 .cases v with
  |int b n=>
   simp only at h
   split at h
   .rename_i e;exact⟨n,by rw[e.1],e.2⟩
   .cases h
  |_=>simp at h
 .cases v<;>simp at h
def trod_slice{k}(m:P.underlying t=ad (.slice k))(h:mh enc P w base spare held (fuel+1) t c=ad (d,ps)):c=[.slice none 0 0]\/
  ∃a f g b rest,c=[.slice (ad a) f g]/\f<=g/\d= .slice (b.map (·.1)) rest/\(cw f).mapM (λi=>(w.cells? base (a.add<|i*P.cellsOf k)<|P.cellsOf k).bind<|mh enc P w base spare held fuel k)=ad b:=by
 unfold mh at h
 rw[m]at h
 rcases c with _|⟨v,_|⟨v2,r⟩⟩
 .simp at h
 .cases v with
  |slice a f g=>
   cases a with
   |none=>
    cases f with
    |zero=>cases g with
     |zero=>exact .inl J
     |succ _=>simp at h
    |succ _=>simp at h
   |some a=>
    simp only at h
    split at h
    .rename_i l;refine .inr ⟨a,f,g,?_⟩;cases hm:(cw f).mapM (λi=>(w.cells? base (a.add<|i*P.cellsOf k)<|P.cellsOf k).bind<|mh enc P w base spare held fuel k)with
     |none=>rw[hm]at h;cases h
     |some b=>
      rw[hm]at h
      simp only[Option.bind_some,bS,bK]at h
      obtain⟨rest,_,rfl,_⟩:=h
      exact⟨b,_,J,l.2.1,J,J⟩
    .cases h
  |_=>simp at h
 .cases v<;>simp at h
def trod_struct{a}(b:P.underlying t=ad (.struct a))(h:mh enc P w base spare held (fuel+1) t c=ad (d,ps)):Z c=P.cellsOf t/\∃xs,(a.toList.mapM λf=>mh enc P w base spare held fuel f.type<|(ay f.offset c).take<|P.cellsOf f.type)=ad xs/\d= .agg (xs.map (·.1)):=by
 unfold mh at h;rw[b]at h;simp only at h;split at h
 .rename_i g;simp only[bS,bK]at h;obtain⟨xs,i,k,_⟩:=h;exact⟨g,xs,i,k.symm⟩
 .cases h
def trod_array{n}{a}(b:P.underlying t=ad (.array n a))(h:mh enc P w base spare held (fuel+1) t c=ad (d,ps)):Z c=P.cellsOf t/\∃xs,((cw n).mapM λi=>mh enc P w base spare held fuel a<|(ay (i*P.cellsOf a) c).take<|P.cellsOf a)=ad xs/\d= .agg (xs.map (·.1)):=by
 unfold mh at h;rw[b]at h;simp only at h;split at h
 .rename_i f;simp only[bS,bK]at h;obtain⟨xs,g,k,_⟩:=h;exact⟨f,xs,g,k.symm⟩
 .cases h
end
def atP{a:Addr}{n}{d}(h:w.cells? base a n=ad d):Z d=n/\∀b(f:b<Z d),w.cell? (a.add b)=ad d[b]:=by
 unfold World.cells? at h;split at h
 .let ⟨g,h2⟩:=P0 h;rw[rV]at g;refine⟨g,λb f=>?_⟩;let ⟨y,i,k⟩:=h2 b b<|jV G;rw[cO f]at i;cases i;exact k
 .cases h
def ahj{a:Type}{Q:V->a->Prop}:∀n,(∀i,i<n->∃x,Q i x)->∃l:E a,Z l=n/\∀i(h:i<Z l),Q i l[i]
 |0,_=>⟨[],J,λi h=>absurd h<|tN i⟩
 |n+1,h=>by
  let ⟨l,h1,h2⟩:=ahj n<|λi b=>h i G;let ⟨x,hx⟩:=h n<|dJ n;refine⟨l++[x],z4,λi b=>?_⟩;rw[List.getElem_append];split
  .rename_i d;exact h2 i d
  .rename_i d;have:i=n:=by simp at b;omega
   subst this;simpa using hx
def Gi:∀(f:V)(T:ET)(ts:E dH),wQ P f T ts=ae->∀(g:E aR)(ds:E (AA H)),P1 enc P w base spare held ts g ds->(∀n∈C9 P ts ds,n<=reachBytes)->
  ∃x:T.den,c6 (λb o=>w.cell? ⟨b,o,none⟩) T x g/\wR T x
 |0,_,_,h,_,_,_,_=>by cases h
 |_+1,_,[],h,_,_,_,_=>by cases h
 |f+1,T,t::t'::ts,h,g,ds,hc,v=>by
  cases T with
  |pr qY B=>
   simp only[wQ,cD]at h
   obtain⟨Q,a7,d,p,rfl,rfl,L,h3⟩:=hc
   simp only[C9,be]at v
   let ⟨x,O,R⟩:=Gi f qY [t] h.1 Q [d] ⟨Q,[],d,[],(ik Q).symm,J,L,J,J⟩ (λn l=>by simp only[C9,ik]at l;exact v n<|.inl l)
   let ⟨y,S,z⟩:=Gi f B (t'::ts) h.2 a7 p h3<|λn l=>v n<|.inr l
   exact⟨(x,y),⟨Q,a7,J,O,S⟩,R,z⟩
  |_=>simp[wQ]at h
 |f+1,T,[t],h,g,ds,hc,v=>by
  obtain⟨Q,a7,d,p,rfl,rfl,⟨s,ps,L⟩,rfl,rfl⟩:=hc;rw[ik];have v:∀n∈d.weights P t,n<=reachBytes:=λn l=>v n (by simp only[C9,ik];exact l)
  cases s with
  |zero=>cases L
  |succ s=>
   unfold wQ at h
   cases hu:P.underlying t with
   |none=>rw[hu]at h;cases h
   |some u=>
    rw[hu]at h
    cases u with
    |bool=>
     cases T with
     |bool=>let ⟨b,hb⟩:=trod_bool hu L;exact⟨b,hb,A⟩
     |_=>simp at h
    |int k=>
     cases T with
     |int k'=>
      have p:k'=k:=aW h
      subst p
      let ⟨n,l,W⟩:=trod_int hu L
      exact⟨n,l,W⟩
     |_=>simp at h
    |slice p=>
     cases T with
     |sl K=>
      simp only[cD,decide_eq_true_eq]at h
      let ⟨⟨D,g2⟩,M⟩:=h
      rcases trod_slice hu L with rfl|⟨a,len,cap,elems,rest,rfl,hlc,rfl,N⟩
      .exact⟨[],⟨_,J,none,0,J,aT _,ax,.inl J⟩,λx C=>by cases C⟩
      .let ⟨m1,m2⟩:=P0 N;rw[rV]at m1;have U:(Z elems+Z rest)*P.bytesOf p<=reachBytes:=v _ (by simp[WM,hu]);have Y:∀n∈P2 P p (elems.map (·.1)),n<=reachBytes:=λn l=>v n (by simp[WM,hu,l])
       have key:∀i,i<len->∃x:K.den,∃g:E aR,(Z g=K.n/\c6 (λb o=>w.cell? ⟨b,o,none⟩) K x g/\∀j(hj:j<Z g),w.cell? ((a.add<|i*K.n).add j)=ad g[j])/\wR K x:=by
        intro i F;let ⟨y,S,z⟩:=m2 i i<|jV F;cases X:w.cells? base (a.add<|i*P.cellsOf p) (P.cellsOf p)with
        |none=>rw[X]at z;cases z
        |some g=>
         rw[X]at z
         let ⟨l1,l2⟩:=atP X
         have hy:y.1∈elems.map (·.1):=kF.2 ⟨y,LK S,J⟩
         let ⟨x,O,R⟩:=Gi f K [p] D g [y.1] ⟨g,[],y.1,[],(ik g).symm,J,⟨s,y.2,z⟩,J,J⟩ (λn l=>by simp only[C9,ik]at l;exact Y n<|ahh hy n l)
         rw[g2]at l1 l2
         exact⟨x,g,⟨l1,O,l2⟩,R⟩
       let ⟨xs,q1,q2⟩:=ahj len key;refine⟨xs,⟨_,J,ad a,cap,by rw[q1],G,?_,?_⟩,λx C=>?_⟩
       .have e1:Z xs*K.n<=(Z elems+Z rest)*P.bytesOf p:=l0 G M;simp only[reachBytes]at U;omega
       .by_cases h0:len=0
        .left;exact gK G
        .right;obtain⟨b,off,I⟩:=a;have q:I=none:=by let ⟨g,⟨c1,_,c3⟩,_⟩:=q2 0 G;have:=K.AH;have:=c3 0 G;simpa[WL]using World.cell?_spot this
         subst q;refine⟨b,off,J,λi F=>?_⟩;let ⟨g,⟨c1,c2,c3⟩,_⟩:=q2 i F;refine⟨g,c1,c2,λj hj=>?_⟩;have:=c3 j hj;rw[atO]at this;exact this
       .let ⟨i,F,p⟩:=Lh C;let ⟨_,_,W⟩:=q2 i F;rw[<-p];exact W
     |_=>simp at h
    |struct fs=>
     simp only[cD,decide_eq_true_eq]at h
     let ⟨⟨D,g2⟩,M⟩:=h
     let ⟨l1,xs,C,hd⟩:=trod_struct hu L
     subst hd
     have:=ahe (off:=0) g2 G C
     rw[qh]at this
     exact Gi f T _ D Q _ this (λn l=>v n<|by simpa[WM,hu]using l)
    |array n p=>
     simp only[cD,decide_eq_true_eq]at h
     let ⟨D,M⟩:=h
     let ⟨l1,xs,C,hd⟩:=trod_array hu L
     subst hd
     rw[Kx]at C
     have BQ:(xs.map (·.1)).length=n:=by rw[cT,(P0 C).1];simp
     have:=ahf (n:=n) (k:=0) G (by rw[l1,<-M,ahi]) C
     rw[qf,qh]at this
     refine Gi f T _ D Q _ this<|λm N=>v m ?_
     rw[ahg BQ]at N
     simpa[WM,hu]using N
    |_=>simp at h
def WN{f}{T}{t}{v}{d:AA H}{ps}(h:wQ P f T [t]=ae)(g:DataW.Trod enc P w base spare held t v d ps)(i:∀n∈d.weights P t,n<=reachBytes):
  ∃x:T.den,c6 (λb o=>w.cell? ⟨b,o,none⟩) T x v.cells.toList/\wR T x:=by
 let ⟨fuel,k⟩:=g
 refine Gi f T [t] h _ [d] ⟨_,[],d,[],(ik _).symm,J,⟨fuel,ps,k⟩,J,J⟩ (λn a=>?_)
 simp only[C9,ik]at a
 exact i n a
def WO{d:Reach}{t:dH}{v:aR}(b:(match P.underlying t with|some (.struct _)=>ae|some (.array _ _)=>ae|_=>ah)=ae)(h:Value.okWide P w d base t v):∃a,v= .agg a:=by
 unfold Value.okWide at h;split at b
 .rename_i e;rw[e]at h;let ⟨a,h,_⟩:=h;exact⟨a,h⟩
 .rename_i e;rw[e]at h;let ⟨a,h,_⟩:=h;exact⟨a,h⟩
 .cases b
def WQ{g}{T}{x:T.den}{b}(h:c6 g.H T x (Value.agg b).cells.toList):a8 g (.a<|av T x) (.agg b):=⟨b.toList,ax,AJ T x _ h⟩
end
end Go.El
