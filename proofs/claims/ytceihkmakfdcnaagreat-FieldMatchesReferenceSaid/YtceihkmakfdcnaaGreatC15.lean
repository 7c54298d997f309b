/- Own work; no condition. -/
import Derived.OpenShut
import Derived.SizedLaws
import Derived.Test.YtceihkmakfdcnaaGreatC14
import Derived.Test.YtceihkmakfdcnaaGreatC6
import Derived.Test.YtceihkmakfdcnaaGreatC12
import Derived.Test.YtceihkmakfdcnaaGreatC11
import Derived.Test.YtceihkmakfdcnaaGreatC3
import Derived.Test.YtceihkmakfdcnaaGreatC1
set_option linter.all false
set_option maxHeartbeats 16000000
set_option maxRecDepth 100000
open Bool renaming true->ae,false->ah
open Go renaming Value->aT,Program->bW,TypeId->eI,DataW->CF
open Go.Addr renaming add->ZX
open Go.DataW renaming trod->nU,weightsEach->Fj,weightsAll->SP,weights->ZY
open Go.El renaming cS->e,rr->U,iJ->o,re->M,bI->h,cI->c,rb->R,jz->w,NB->F
open Go.Proofs.Tryz renaming prog->O
open Int renaming natAbs->aC
open List renaming replicate->bx,length->Z,getD->I,take->r,drop->az,mapM_nil->ak0,range->bJ
open Option renaming some->ad
open _root_ renaming List->E,Int->V,Rat->L,Nat->G
namespace Go.El
open Go Go.Proofs Go.RowKit
abbrev Cl:=FuncId×E AV×AV
noncomputable def IB(l:E Cl)(f:FuncId)(vs:E AV)(a:Ms):Option (E AV×AV):=List.rec (motive:=λ_=>Option<|E AV×AV) (ZJ f vs a)
 (λe _ b=>match Nat.beq f e.1 with
  |true=>(match tN (λd=>bO d a) vs e.2.1 with
   |true=>ad (e.2.1,e.2.2)
   |false=>b)
  |false=>b) l
def SF:E Cl->Prop
 |[]=>True
 |a::b=>w O a.1 a.2.1 a.2.2/\SF b
def SH:∀{l:E Cl},SF l->∀f vs b a d,IB l f vs b=ad (a,d)->w O f a d
 |[],_,f,vs,b,a,d,k=>axf f vs b a d k
 |i::l,hl,f,vs,b,a,d,k=>by
  have g:(match Nat.beq f i.1 with
   |true=>(match tN (λn=>bO n b) vs i.2.1 with
    |true=>ad (i.2.1,i.2.2)
    |false=>IB l f vs b)
   |false=>IB l f vs b)=ad (a,d):=k
  split at g
  .rename_i m;split at g
   .simp at g;obtain⟨rfl,rfl⟩:=g;rw[mi m];exact hl.1
   .exact SH hl.2 f vs b a d g
  .exact SH hl.2 f vs b a d g
def iT{l}(b:SF l){f}{vs}{a}(d:adP a (vf O dM (IB l) (jD O dM (IB l) 100000) f vs [] 0)=ae)(g:cX vs=[])(i:a.ak=[]):w O f vs a:=
 apw MX cq (SH b) 100000 d g i
def SI{l}(b:SF l){f}{vs}{a}(d:VT O dM (IB l) 100000 200 200 f vs a=ae)(g:cX vs=[])(i:a.ak=[]):w O f vs a:=
 aqb MX cq (SH b) 100000 200 200 d g i
def qI(n:V):L:=Rat.ofInt n
abbrev uP(l:E L):AV:= .c<|.S .q l
abbrev zP(l:E V):AV:= .c<|.S .z l
abbrev qF(l:E (E V)):AV:= .c<|.S (.sl .z) l
abbrev pL(l:E (E V×V)):AV:= .c<|.S (.pr (.sl ar) ar) l
abbrev PQ:V:=1073741827
open Rx
def qG(a b:E L):G->E L
 |0=>bx (Z a+Z b-1) 0
 |i+1=>kS (qG a b i) (I a i 0) b i
def ZK(a b:E L):∀i,Z (qG a b i)=Z a+Z b-1
 |0=>ig
 |i+1=>by rw[qG,kS,oY,ZK a b i]
def akx a i:lx (r (i+1) a)=lx (r i a)+K (I a i 0)*X i:=ext λj=>by
 rw[ef,du,rH,dN,dN,Ij,Ij];by_cases h:j=i
 .subst h;rw[q Y,y Y,q J];grind
 .rw[y h];by_cases h2:j<i
  .rw[q Y,q h2];grind
  .rw[y Y,y h2];grind
def ZL{a b:E L}:∀i,i<=Z a->lx (qG a b i)=lx (r i a)*lx b
 |0,_=>by rw[qG,HJ,ku,Rx.dy];exact ext λi=>L9 _ i
 |i+1,d=>by rw[qG,Mb _ (by rw[ZK];omega),ZL i Y,akx,Rx.gQ,Rx.dc]
def axg a b:gI (qG a b<|Z a)=ml a b:=nP (jV _) (uz a b) (by rw[uu,ZL _<|aL _,iG,uy])
def SJ{n m t u s}{a b}(l:Pz n t a)(p:Pz m u b)(N:n<=16)(P:m<=400)(v:t+u+4<32*s)(Q:s<=100000000000):w O 67 [e .q a,e .q b] (e .q<|ml a b):=by
 refine aK Tryz.func67 ?_;have K:=l.len;have T:=p.len;refine U J<|bI<|R<|rg 11 J J (λh=>?_)<|λh=>?_
 .have h:a=[]:=by have h:(a.length:V)=0:=dw h;exact gx Y
  subst h;rw[aic];exact M J<|F J (λ_=>U J<|bX<|cY<|iX cq J<|bu.nil .q)<|λh=>gL
 refine M J<|F J (λk=>?_)<|λk=>aE ?_
 .have h:b=[]:=by have h:(b.length:V)=0:=dw k;exact gx Y
  subst h;rw[aid];exact U J<|bX<|cY<|iX cq J<|bu.nil .q
 have W:0<a.length:=by have h:(((a.length:G):V)==0)=ah:=h;rw[beq_eq_false_iff_ne]at h;omega
 have o:0<b.length:=by have h:(((b.length:G):V)==0)=ah:=k;rw[beq_eq_false_iff_ne]at h;omega
 clear h k;have z:qq O 118 [c ((a.length:V)+(b.length:V)-1)] 44 .q (bx (a.length+b.length-1) 0):=by rw[(Y:(a.length:V)+(b.length:V)-1=((a.length+b.length-1:G):V))];exact Rt _ Y
 refine R<|DV J J z (M J<|bI<|U J<|ay<|bq (α:=G) (λi=>⟨[(1,e .q b),(5,.c<|.X 2006000),(23,e .q a),(24,c a.length),(25,c i)],[(2006000,.vec 44 .q<|qG a b i)],4,[]⟩) (λi=>i<=a.length) (λi=>a.length-i) 0 (bg _) (wk (bK J) ⟨bE J J,j⟩) ?_) (hp:=aH);intro i A;have B:=ZK a b i;have hQ:∀d,QS s ((qG a b i).getD d 0):=λd=>by
  have C:Ht (2^(t+u+4)) (lx<|qG a b i):=by rw[ZL i A,<-Mg];let ⟨D,d1,d2,d3⟩:=l.ht;refine Ht.mul (n:=2^4) ⟨D,d1,d2,d3.take i⟩ p.ht ?_ S;have:=Lv<|a.take i;rw[iC]at this;omega
  exact C.qs (mO v) d
 refine U J<|bI<|F J (λh=>?_)<|λh=>?_
 .have h:i<a.length:=by have h:(i:V)<(a.length:V):=aV h;omega
  have f:=Ru (s:=s) Y (qG a b i) (a.getD i 0) b i Y Y hQ (l.qs Y i)<|λd=>p.qs Y d;have H:((i:V)).toNat=i:=cC i;rw[show kS (qG a b i) (a.getD i 0) b i=qG a b (i+1)from J]at f;have g:wG O 119 [.c (.X 0),aQ<|a.getD ((i:V)).toNat 0,e .q b,c i] 44 .q (qG a b i) (.t []) (qG a b<|i+1):=by rw[H];exact f
  exact aE<|bI<|ay<|U J (cG<|BD 2006000 J g J J<|M J<|bP<|rt J (hp:=aH)<|a4 (i+1) h (Y:a.length-(i+1)<a.length-i)<|wk ⟨sR J,sR J,sR J,sR J,sE J<|jQ (Y:(i:V)+1=((i+1:G):V)),j⟩ ⟨bR J,j⟩) (hp:=aH)
 .have h:i=a.length:=by have h:¬(i:V)<(a.length:V):=bc h;omega
  subst h;have x:=L7 (qG a b a.length) Y;rw[axg]at x;exact bs<|aS<|dv 2006000 J J J<|bQ J J x J<|cN J
def axh:w O 74 [e .q [],e .q []] (e .q []):=iT (l:=[]) j fh J J
def axi a b:gI (Ar a (-1) b)=eW a b:=nP (jV _) (jV _) (by rw[uu,auh,Cs,HX,lU,Rx.neg_mul,Rx.c8,fB])
def axj{s}(d:1<=s)(f:s<=200000000000) a b(g:Z a<=1000)(k:Z b<=1000)(l:∀i,QS s (I a i 0))(m:∀i,QS s (I b i 0)):w O 74 [e .q a,e .q b] (e .q<|eW a b):=by
 by_cases h:0<max (Z a) (Z b)
 .rw[<-axi];exact atW d f a b g k h l m
 .have n:a=[]:=gx Y;have p:b=[]:=gx Y;subst n p;exact axh
def Pz.MB{n m t u s}{a b}(d:Pz n t a)(f:Pz m u b)(k:n<=500)(l:m<=500)(g:t<32*s)(i:u<32*s)(p:s<=100000000000):w O 74 [e .q a,e .q b] (e .q<|eW a b):=
 axj Y Y a b (br d.len Y) (br f.len Y) (d.qs g) (f.qs i)
def aky b a:gI (uq b a)=dJ b a:=nP (jV _) (jV _) (by rw[uu,ahV,xj])
def Pz.MC{n t s}{a}{c}(b:Pz n t a)(d:QS s c)(g:n<=500)(f:t<32*s)(i:s<=100000000000):w O 75 [aQ c,e .q a] (e .q<|dJ c a):=by rw[<-aky];exact Yl Y Y c a (br b.len Y) d<|b.qs f
def akz{s}(g:1<=s)(i:s<=100000000000){a b}(k:b≠[])(f:Au s a b):w O 65 [e .q a,e .q b] (.t [(ah,[.S .q (cV a b)]),(ah,[.S .q (bZ a b)]),(ah,[.I .i64 0])]):=by
 have l:=cF.2 k;have m:=f.la;have n:=f.lb;by_cases d:Z a<Z b
 .rw[bZ,cV,q d,q d];exact at0 a b d Y
 .rw[bZ,cV,y d,y d];exact atZ g i a b (Z b-1) (Z a+1-Z b) Y Y Y Y f.bn f.qb f.qS
def Pz.SK{n m t u d s}{a b}(g:Pz n t a)(i:Pz m u b)(f:b≠[])(k:Z a+1-Z b<=d)(l:n<=500)(p:m<=500)(v:t+u+(u+1)*d<32*s)(x:s<=100000000000):w O 65 [e .q a,e .q b] (.t [(ah,[.S .q (cV a b)]),(ah,[.S .q (bZ a b)]),(ah,[.I .i64 0])]):=
 akz Y x f (g.xk i f k l p v)
def Pz.ZM{n m t u d s}{a b}(f:Pz n t a)(g:Pz m u b)(i:b≠[])(k:Z a+1-Z b<=d)(l:n<=500)(p:m<=500)(v:t+u+(u+1)*d<32*s)(x:s<=100000000000):w O 17 [e .q a,e .q b] (e .q<|bZ a b):=by refine aK Tryz.func17 ?_;exact U J<|R<|rc J J (f.SK g i k l p v x)<|M J<|U J<|cN J
def fm(a b m:E L):E L:=bZ (ml a b) m
def Pz.akA{n m k t u v d s}{a b f}(g:Pz n t a)(i:Pz m u b)(x:Pz k v f)(z:f≠[])(l:n<=16)(A:m<=400)(H:k<=400)(N:Z a+Z b-1+1-Z f<=d)(B:t+u+4+v+(v+1)*d<32*s)(p:s<=100000000000):w O 19 [e .q a,e .q b,e .q f] (e .q<|fm a b f):=by refine aK Tryz.func19 ?_;have:=Ip g.can i.can;exact U J<|R<|rc J J (SJ g i l A Y p)<|rc J J ((g.mul i l).ZM x z (d:=d) Y Y Y B p)<|M J<|cN J
def Pz.fm{n m k t u v d}{a b f}(g:Pz n t a)(i:Pz m u b)(l:Pz k v f)(p:f≠[])(s:n<=16)(x:Z a+Z b-1+1-Z f<=d):Pz k (t+u+4+(v+1)*d) (El.fm a b f):=by have:=Ip g.can i.can;exact(g.mul i s).rem l p Y
def IC{a b d}(f:bp d)(g:d≠[]):lx d∣lx (fm a b d)-lx a*lx b:=by rw[<-uy];exact RX f g
end Go.El
namespace Go.El
open Go Go.Proofs Go.RowKit
def akB{g:Gh}{b:G->G}:∀{d:C}{v:aT},de ⟨g.H,λf=>g.γ<|b f⟩ d v->de g (lG b d) v
 | .any,_,a=>a
 | .B _,_,a=>a
 | .I _ _,_,a=>a
 | .V _,_,a=>a
 | .S _ _,_,a=>a
 | .P _ _,_,a=>a
 | .X _,_,a=>a
 | .Y _ _ _ _,_,a=>a
 | .E _ _ _,_,a=>a
 | .M _,_,a=>a
 | .L _ _ _ (ad _),_,a=>a
 | .L _ _ _ none,_,a=>a
 | .W _ _ _,_,a=>a
def ID{g:Gh}{b:G->G}:∀{d:E C}{vs:E aT},a6 ⟨g.H,λf=>g.γ<|b f⟩ d vs->a6 g (d.map<|lG b) vs
 |[],_,a=>a
 |_::_,_,a=>by let ⟨v,i,k,l,h2⟩:=a;exact⟨v,i,k,akB l,ID h2⟩
def ZN{g:Gh}{k:G->G}:∀{l:E (Bool×E C)}{vs:E aT},dK ⟨g.H,λm=>g.γ<|k m⟩ l vs->dK g (l.map λs=>(s.1,s.2.map<|lG k)) vs
 |[],_,d=>d
 | (b,f)::_,_,d=>by
  let ⟨v,n,i,a,h2⟩:=d;refine⟨v,n,i,?_,ZN h2⟩;match b,f,a with
  |true,f,a=>let ⟨vs,i,d⟩:=a;exact⟨vs,i,ID d⟩
  |false,[f],a=>exact akB a
  |false,[],a=>exact a.elim
  |false,_::_::_,a=>exact a.elim
def akC{g:Gh}{a:G->G}{i k:Bool}:∀{n:G}{xs:E (E C×E C)}{l:E MapEntry},jr ⟨g.H,λm=>g.γ<|a m⟩ i k n xs l->jr g i k n (xs.map λx=>(x.1.map<|lG a,x.2.map<|lG a)) l
 |_,[],_,b=>b
 |_,_::_,_,b=>by let ⟨p,s,t,h2,⟨u,v,d⟩,⟨vs,z,f⟩,A⟩:=b;exact⟨p,s,t,h2,⟨u,v,ID d⟩,⟨vs,z,ID f⟩,akC A⟩
def axk{N:G->Prop}{g}{W}{t:G->G}{s}{b}(l:gW N ⟨g.H,λs=>g.γ<|t s⟩ W s b):gW N g W (t s) (qA t b):=by
 cases b with
 |box E z cs=>
  let ⟨k,vs,rest,a,d,i,p,u,x⟩:=l
  exact⟨k,vs,rest,a,d,ID i,p,u,x⟩
 |vec E T A=>
  rcases l with⟨a,d⟩|⟨k,v,vs,a,d⟩
  .exact .inl ⟨a,d⟩
  .exact .inr ⟨k,v,vs,a,d⟩
 |eB f first caps=>
  let ⟨us,ws,a,d,i⟩:=l
  exact⟨us,ws,a,ZN d,ZN i⟩
 |fz E cs=>
  let ⟨k,vs,rest,a,d,i,p,u⟩:=l
  exact⟨k,vs,rest,a,d,ID i,p,u⟩
 |mp B C xs=>
  let ⟨k,es,a,d,i,p⟩:=l
  exact⟨k,es,a,by simpa using d,akC i,p⟩
 |it m n seen=>exact l
def axl(a:G->G):∀b:C,(lG a b).ak=b.ak.map a
 | .any=>rfl
 | .B _=>rfl
 | .I _ _=>rfl
 | .V _=>rfl
 | .S _ _=>rfl
 | .P _ _=>rfl
 | .X _=>rfl
 | .Y _ _ _ _=>rfl
 | .E _ _ _=>rfl
 | .M _=>rfl
 | .L _ _ _ _=>rfl
 | .W _ _ _=>rfl
def ME(b:G->G):∀a:E C,b6 (a.map<|lG b)=(b6 a).map b
 |[]=>rfl
 |d::a=>by simp[b6,axl,ME b a]
def akD(b:G->G):∀a:E (Bool×E C),et (a.map λs=>(s.1,s.2.map<|lG b))=(et a).map b
 |[]=>rfl
 |d::a=>by simp[et,ME,akD b a]
def akE(a:G->G):∀xs:E (E C×E C),lZ (xs.map λx=>(x.1.map<|lG a,x.2.map<|lG a))=(lZ xs).map a
 |[]=>rfl
 |b::cs=>by simp[lZ,ME,akE a cs]
def axm(d:G->G) b:(qA d b).ak=b.ak.map d:=by
 cases b with
 |box E z cs=>exact ME d cs
 |vec E T xs=>rfl
 |eB f a b=>simp[qA,aA.ak,akD]
 |fz E cs=>exact ME d cs
 |mp g i xs=>exact akE d xs
 |it m n seen=>rfl
def AK(a:G->G):E (G×aA)->E (G×aA)
 |[]=>[]
 | (id,b)::d=>(a id,qA a b)::AK a d
def akF{g:G->G}{k:G}{b:aA}:∀{fm:E (G×aA)},o k (AK g fm)=ad b->∃d f,d∈fm.map (·.1)/\g d=k/\(d,f)∈fm/\b=qA g f
 |[],a=>by cases a
 | (i,x)::fm,a=>by
  simp[AK,o]at a;split at a
  next m=>cases a;exact⟨i,x,au,m,au,J⟩
  .obtain⟨d,f,l,n,p,s⟩:=akF a;exact⟨d,f,by simp at l;simp[l],n,by simp[p],s⟩
def akG{fm}(a:(fm.map (·.1)).Nodup){f}{b:aA}(d:(f,b)∈fm):o f fm=ad b:=by
 induction fm with
 |nil=>cases d
 |cons p r g=>
  obtain⟨j,x⟩:=p
  simp only[gX,AT]at a
  simp only[o]
  rcases b7.1 d with e|d
  .cases e;simp
  .have:j≠f:=λe=>a.1 (by subst e;exact kd.2 ⟨_,d,J⟩)
   rw[y this];exact g a.2 d
def IE{g:G->G}{k:G}{b:aA}:∀{fm:E (G×aA)},(∀i∈fm.map (·.1),∀m∈fm.map (·.1),g i=g m->i=m)->o k fm=ad b->o (g k) (AK g fm)=ad (qA g b)
 |[],_,d=>by cases d
 | (i,x)::fm,l,d=>by
  simp[AK,o]at d⊢;split at d
  next f=>cases d;subst f;simp
  .rename_i f;have n:k∈fm.map (·.1):=by
    clear l f;induction fm with
    |nil=>cases d
    |cons p r s=>
     simp[o]at d
     split at d
     next f=>subst f;simp
     .simp[s d]
   rw[y (λt=>f<|l i au k (by simp at n;simp[n]) t)];exact IE (λa u b v=>l a (ls _ u) b<|ls _ v) d
def qJ(a:E G):G×aA:=(0,.eB 0 [] (a.map λi=>(ah,[.X i])))
def akH(g:Gh):∀a:E G,dK g (a.map λi=>(ah,[.X i])) (a.map g.γ)
 |[]=>rfl
 |i::a=>⟨_,_,J,J,akH g a⟩
def akI{g:Gh}:∀{a:E G}{f:E aT},dK g (a.map λi=>(ah,[.X i])) f->f=a.map g.γ
 |[],_,b=>b
 |i::a,_,b=>by obtain⟨v,l,rfl,d,k⟩:=b;have d:v=g.γ i:=d;simp[d,akI k]
def akJ:∀a:E G,et (a.map λi=>(ah,[.X i]))=a
 |[]=>rfl
 |i::a=>by simp[et,b6,C.ak,akJ a]
section
variable{P:bW}{tt:TT}
def axn(b:cE P tt=ae){n}{d}{i}{k}{l}(m:mc tt d k=ad l)(f:i.results=k.toArray:=by rfl):gy n .normal d (RD P i l d.mem):=
 λF p g W a h=>RE b m f F p g W a h
def ZO(Q:G->G){n}{f}{fn}{dU}{vs vs0}{k}{a7}{fm0 fm0' fm xR}(hf:P.funcs[f]? =ad fn)(hb:fn.body=ad dU)(hN:fn.ntmps=n)
  (A:TR P n dU ⟨dT 0 vs0,qJ (fm0.map (·.1))::fm0,1,[]⟩ (RD P fn a7<|qJ (fm0.map (·.1))::fm0'))
  (u7:vs=vs0.map (Cb Q)) (JW:fm=AK Q fm0) (axo:xR=AK Q fm0')
  (hd:∀d∈fm0.map (·.1),(1<=d/\d<1000000)/\Q d<k) (D:∀i∈fm0.map (·.1),∀B∈fm0.map (·.1),Q i=Q B->i=B)
  (wH:∀d∈cX vs0,d∈fm0.map (·.1)) (oN:∀d b,(d,b)∈fm0->∀B∈b.ak,B∈fm0.map (·.1)) (BR:fm0'.map (·.1)=fm0.map (·.1)) (akK:∀d b,(d,b)∈fm0'->∀B∈b.ak,B∈fm0.map (·.1))
  (BB:a7.ak=[]) (lv:(fm0.map (·.1)).Nodup:=by decide) (hle:Nat.ble (Z vs0) n=ae:=by rfl) (qY:(fn.name != "runtime.NumGoroutine")=ae:=by rfl):CX P f vs fm k a7 xR k:=by
 subst u7 JW axo
 refine⟨zc,aL _,?_⟩
 intro F g W T hn lA w
 have axp:fV g (vs0.map<|Cb Q) T:=U6 _ T 0 T lA (λB hj=>au) (λt v ht=>w.dW t v<|by simp[St.kn,ht])
 have hle:=c7 hle
 have lA:Z T=Z vs0:=by simpa using lA
 let K:G->aT:=λd=>g.γ<|Q d
 let V:Gh:=⟨g.H,λd=>if d=0 then .func (.func 0) #[] ((fm0.map (·.1)).map K).toArray else K d⟩
 have SL:V.γ 0= .func (.func 0) #[] ((fm0.map (·.1)).map K).toArray:=by simp[V]
 have Y:∀d,d≠0->V.γ d=K d:=λd A=>by simp[V,A]
 have U:∀d∈fm0.map (·.1),d≠0:=λd A=>by have:=(hd d A).1.1;omega
 have yb:gN (λd=>d≠0) ⟨g.H,K⟩ V:=⟨cL.refl _,λd A=>Y d A⟩
 have zz:fV V vs0 T:=by
  have key:∀(xs:E AV)(T:E aT),fV g (xs.map<|Cb Q) T->(∀d∈cX xs,d≠0)->fV V xs T:=by
   intro xs;induction xs with
   |nil=>intro T A _;exact A
   |cons x xs ih=>
    rintro T ⟨v,a7,rfl,R,h2⟩ hm
    exact⟨v,a7,J,bh.mono yb (λd z=>hm d<|eT _ z)<|X0 R,ih a7 h2<|λd z=>hm d<|gO _ z⟩
  exact key vs0 T axp<|λd z=>U d<|wH d z
 have ZP:∀{fm:E (G×aA)}{d:G}{b:aA},o d fm=ad b->d∈fm.map (·.1):=by
  intro fm;induction fm with
  |nil=>intro d b A;cases A
  |cons p l ih=>
   intro d b A
   simp only[o]at A
   split at A
   next e=>subst e;simp
   .have:=ih A;simp at this;simp[this]
 have r9:∀{fm:E (G×aA)}{d:G}{b:aA},o d fm=ad b->(d,b)∈fm:=by
  intro fm;induction fm with
  |nil=>intro d b A;cases A
  |cons p l ih=>
   intro d b A
   simp only[o]at A
   split at A
   next e=>cases A;subst e;simp
   .exact ls _<|ih A
 have NS:∀d b,o d fm0=ad b->gW F.N g W (Q d) (qA Q b):=λd b A=>w.cM (Q d) (qA Q b) (by simp[St.kn,IE D A])
 let F0:dO:={w0:=W,H0:=g.H,n:=n,own:=λx=>∃d b,o d fm0=ad b/\El.cO (K d)=ad x,k0:=1,γ0:=V.γ}
 have Kx:∀x,F0.own x->F.N x/\x<W.heap.size:=λx ⟨d,b,R,h2⟩=>(NS d b R).block h2
 have q8:∀{X:E (G×aA)}{d:G}{b:aA}{sl:E (G×AV)}{nx:G},St.kn ⟨sl,qJ (fm0.map (·.1))::X,nx,[]⟩ (.m d)=ad (.b b)->(d=0/\b=(qJ<|fm0.map (·.1)).2)\/(d≠0/\o d X=ad b):=by
  intro X d b sl nx e;have e1:o d (qJ (fm0.map (·.1))::X)=ad b:=by
   have e0:(o d<|qJ (fm0.map (·.1))::X).map Info.b=ad (.b b):=e;cases A:o d (qJ (fm0.map (·.1))::X)with
   |none=>rw[A]at e0;cases e0
   |some cc=>rw[A]at e0;cases e0;rfl
  change (if 0=d then ad (qJ<|fm0.map (·.1)).2 else o d X)=ad b at e1;by_cases dU:0=d
  .rw[q dU]at e1;cases e1;exact .inl ⟨dU.symm,J⟩
  .rw[y dU]at e1;exact .inr ⟨λA=>dU A.symm,e1⟩
 have sJ:∀t v,o t (dT 0 vs0)=ad v->bh V v ((T.toArray++Array.replicate (fn.ntmps-T.toArray.size) undef).getD t undef)/\∀d∈v.ak,d∈cX vs0:=by
  intro t v ht;obtain⟨_,u,hu,hr,h6⟩:=me vs0 T 0 zz t v ht;have zr:T[t]? =ad u:=v3;have jK:t<Z T:=(qQ.1 zr).1;have:(T.toArray++Array.replicate (fn.ntmps-T.toArray.size) undef).getD t undef=u:=by rw[l7,uW zd];simp[zr]
  rw[this];exact⟨hr,h6⟩
 refine calls_of_wp hf hb ?_
 refine wp_mono (A F0 ⟨J,aL _,J,J⟩ V W _ ⟨?_,J,?_,?_,?_,?_,?_,w.sub,⟨J,J,J,aL _,λ_ _ _=>rfl⟩,cL.refl _,λ_ _ _ _=>rfl,λd z=>⟨?_,J⟩⟩)<|λe a W' hq=>?_
 .simp[hN,F0];omega
 .intro t v ht;simp only[St.kn,bY]at ht;obtain⟨x,hx,L⟩:=ht;cases L;exact(sJ t v hx).1
 .intro d b e;rcases q8 e with⟨rfl,rfl⟩|⟨hn,hl⟩
  .refine⟨[],_,SL,J,?_⟩;have:=akH V<|fm0.map (·.1);have e1:(fm0.map (·.1)).map V.γ=(fm0.map (·.1)).map K:=Xr λi hi=>Y i (U i hi)
   rwa[e1]at this
  .refine gW.Bi (X2<|NS d b hl) (λkk I=> .inr ⟨d,b,hl,I⟩) (Y d hn) J ⟨cL.refl _,λB hj=>Y B<|U B<|oN d b (r9 hl) B hj⟩
 .intro d qi b b' kk e e' I uT;rcases q8 e with⟨rfl,rfl⟩|⟨hn,hl⟩
  .rw[SL]at I;cases I
  .rcases q8 e' with⟨rfl,rfl⟩|⟨zH,T1⟩
   .rw[SL]at uT;cases uT
   .rw[Y _ hn]at I;rw[Y _ zH]at uT;exact D d (ZP hl) qi (ZP T1)<|w.inj _ _ _ _ kk (by simp[St.kn,IE D hl];rfl) (by simp[St.kn,IE D T1];rfl) I uT
 .intro key x e d z;show d<1000000*1;have I:∀d∈fm0.map (·.1),d<1000000*1:=λd A=>by have:=(hd d A).1.2;omega
  cases key with
  |m B=>
   cases x with
   |v v=>simp only[St.kn,bY]at e;obtain⟨_,_,L⟩:=e;cases L
   |b b=>
    rcases q8 e with⟨rfl,rfl⟩|⟨hn,hl⟩
    .have z:d∈et []++et ((fm0.map (·.1)).map λi=>(ah,[C.X i])):=z;rw[akJ]at z;exact I d (by simpa[et]using z)
    .exact I d<|oN B b (r9 hl) d z
  |s t=>
   simp only[St.kn,bY]at e
   obtain⟨cc,hy,L⟩:=e
   subst L
   exact I d<|wH d<|(sJ t cc hy).2 d z
 .intro d x e;show d<1000000*1;cases x with
  |v v=>simp only[St.kn,bY]at e;obtain⟨_,_,L⟩:=e;cases L
  |b b=>
   rcases q8 e with⟨rfl,rfl⟩|⟨hn,hl⟩
   .decide
   .have:=(hd d<|ZP hl).1.2;omega
 .have z:d<1:=z;show d<1000000*1;omega
 refine ahN ?_ hq
 rintro e W' ⟨v,g1,rfl,hv,R⟩
 have hγ:∀d∈fm0.map (·.1),g1.γ d=K d:=by
  have e0:g1.γ 0=V.γ 0:=(R.fT 0 (S:(0:G)<1)).2;obtain⟨Pj,ws,e1,e2,e3⟩:=R.cM 0 (qJ<|fm0.map (·.1)).2 (by simp[St.kn,qJ,o]);rw[e0,SL]at e1;have e5:((fm0.map (·.1)).map K)=(fm0.map (·.1)).map g1.γ:=by rw[<-(akI e3)];injection e1 with _ _ e6;have:=bm Array.toList e6;simpa using this
  intro d z;exact(List.map_inj_left.1 e5 d z).symm
 let g2:Gh:=⟨g1.H,g.γ⟩
 have GF:∀d b,(d,b)∈fm0'->o d fm0'=ad b:=λd b A=>akG (by rw[BR];exact lv) A
 have M:∀d b,(d,b)∈fm0'->d∈fm0.map (·.1):=λd b A=>by rw[<-BR];exact kd.2 ⟨_,A,J⟩
 have Bj:∀d b,(d,b)∈fm0'->gW F0.N g1 W' d b:=λd b A=>R.cM d b (by have eZ:d≠0:=U d<|M d b A;simp[St.kn,qJ,o,Ne.symm eZ,GF d b A])
 have hex:∀d∈fm0.map (·.1),∃b,o d fm0=ad b:=λd z=>by obtain⟨p,hp,rfl⟩:=kd.1 z;exact⟨p.2,akG lv hp⟩
 have Ur:∀x,F0.N x->F.N x:=λx hx=>by
  rcases hx with hx|hx
  .exact .inl<|br w.below.size hx
  .exact(Kx x hx).1
 have hM:∀{B b},(St.kn ⟨[(0,a7)],AK Q fm0',0,[]⟩) (.m B)=ad (.b b)->∃d O,Q d=B/\(d,O)∈fm0'/\b=qA Q O:=λ{B b} e=>by simp only[St.kn,bY]at e;obtain⟨cc,hy,L⟩:=e;cases L;obtain⟨d,O,_,h2,h3,h4⟩:=akF hy;exact⟨d,O,h2,h3,h4⟩
 have hS:∀{t u},(St.kn ⟨[(0,a7)],AK Q fm0',0,[]⟩) (.s t)=ad (.v u)->t=0/\u=a7:=λ{t u} e=>by
  simp only[St.kn,o,bY]at e;obtain⟨x,hx,L⟩:=e;cases L;split at hx
  next e=>cases hx;exact⟨e.symm,J⟩
  .cases hx
 refine⟨v,g2,J,J,w.defers,?_,?_,?_,?_,?_,R.sub,?_,w.le.trans R.le,?_,?_⟩
 .intro t u e;obtain⟨rfl,rfl⟩:=hS e;have:=bh.jh hv BB (cL.refl _) g2.γ;simpa[n7,g2]using this
 .intro B b e;obtain⟨d,O,rfl,h3,rfl⟩:=hM e;exact axk (g:=g2)<|gW.Bi (Bj d O h3) (λkk I=>Ur kk<|((Bj d O h3).block I).1) (hγ d<|M d O h3).symm J ⟨cL.refl _,λB hj=>(hγ B<|akK d O h3 B hj).symm⟩
 .intro B j' b b' kk e e' I uT;obtain⟨d,O,rfl,h3,rfl⟩:=hM e;obtain⟨qi,b0',rfl,Dr,rfl⟩:=hM e';obtain⟨x,hx⟩:=hex d<|M d O h3;obtain⟨x',Us⟩:=hex qi<|M qi b0' Dr;exact w.inj _ _ _ _ kk (by simp[St.kn,IE D hx];rfl) (by simp[St.kn,IE D Us];rfl) I uT
 .intro key x e d z;cases key with
  |s t=>
   cases x with
   |v u=>obtain⟨rfl,rfl⟩:=hS e;exact aF z (by simp[Info.ak,BB])
   |b b'=>simp only[St.kn,bY]at e;obtain⟨_,_,L⟩:=e;cases L
  |m B=>
   cases x with
   |v v'=>simp only[St.kn,bY]at e;obtain⟨_,_,L⟩:=e;cases L
   |b b'=>
    obtain⟨i,O,rfl,h3,rfl⟩:=hM e
    have z:d∈(qA Q O).ak:=z
    rw[axm]at z
    obtain⟨jA,hq,rfl⟩:=kd.1 z
    exact(hd jA<|akK i O h3 jA hq).2
 .intro B x e;cases x with
  |v v'=>simp only[St.kn,bY]at e;obtain⟨_,_,L⟩:=e;cases L
  |b b'=>
   obtain⟨i,O,rfl,h3,rfl⟩:=hM e
   exact(hd i<|M i O h3).2
 .refine⟨R.below.os.trans w.below.os,R.below.tape.trans w.below.tape,R.below.output.trans w.below.output,br w.below.size R.below.size,λkk I lz=>?_⟩;rw[R.below.block kk (gK I w.below.size) (λho=>?_)]
  .exact w.below.block kk I lz
  .rcases(Kx kk ho).1 with h2|h2
   .exact aF I<|Nat.not_lt.2 h2
   .exact lz h2
 .intro b aG nq lz;show g1.H b aG=F.H0 b aG;rw[R.fresh b aG (gK nq w.below.size) (λho=>?_)]
  .exact w.fresh b aG nq lz
  .rcases(Kx b ho).1 with h2|h2
   .exact aF nq<|Nat.not_lt.2 h2
   .exact lz h2
 .intro d z;exact⟨(w.fT d z).1,(w.fT d z).2⟩
def IF:E (G×aA)->E (G×aA)->Prop
 |[],_=>True
 | (id,b)::a,mem=>o id mem=ad b/\IF a mem
def IF.get{mem:E (G×aA)}:∀{fm:E (G×aA)},IF fm mem->∀d b,o d fm=ad b->o d mem=ad b
 |[],_,_,_,a=>by cases a
 | (i,x)::fm,f,d,b,a=>by
  simp[o]at a;split at a
  next g=>cases a;subst g;exact f.1
  .exact IF.get f.2 d b a
def akL{d}{g}{u}{fm a mem}{k z i}{A l}(B:a.map (·.1)=fm.map (·.1)):
  St.kn ⟨(d,g)::u,a++mem,z,A⟩=bw (St.kn ⟨u,mem,i,l⟩) ((.s d,ad<|.v g)::(qk a fm++kX k a)):=by
 have b:∀(fm a:E (G×aA)),a.map (·.1)=fm.map (·.1)->∀j,(o j a).isSome=(o j fm).isSome:=by
  intro fm;induction fm with
  |nil=>
   intro a h j;have:a=[]:=by simpa using h
   subst this;rfl
  |cons p g C=>
   intro a h j
   cases a with
   |nil=>cases h
   |cons H D=>
    simp[gX]at h
    simp[o,h.1]
    split
    .rfl
    .exact C D h.2 j
 funext key
 cases key with
 |s t=>
  by_cases e:d=t
  .subst e;simp[St.kn,o,bw,aD]
  .simp[St.kn,o,bw,aD,e,wi,Gv,zn]
 |m j=>
  have f:=b fm a B j
  simp[St.kn,bw,aD,b8,wi,JO,zo,GB]
  cases h2:o j a with
  |none=>
   rw[h2]at f
   have n:(o j fm).isSome=ah:=f.symm
   simp[n]
  |some x=>
   rw[h2]at f
   have n:(o j fm).isSome=ae:=f.symm
   simp[n]
def akM{a}{f}{args:E Operand}{d}{is}:∀b∈cQ a f++args.flatMap (cQ a)++fZ a d++fZ a is,a.kn b.1=ad b.2:=by
 intro b h;simp only[bl]at h;rcases h with((h|h)|h)|h
 .exact eQ a f b h
 .obtain⟨x,_,h⟩:=js.1 h;exact eQ a x b h
 .exact ly a d b h
 .exact ly a is b h
end
section
variable{n:G}{sl sl':E (G×AV)}{mem bT:E (G×aA)}{nx n0 cw i i':G}{gd gd':E (G×Bool)}{ops:Array Oper}{draw:Bool}{os dR:E Oper}{ks dC:E Ks}{p:Pr}{R:St->Prop}{d:G}{ty:eI}{pos:String}{iF:Array Edge}
def rcX{cf}{args}{v}{f}{vs}{x}{fm l}{z}(s:runs dM n nx draw ops.toList os i ⟨sl,mem,n0,gd⟩ .t ks=(⟨ad d,.call ⟨.value cf,args,v⟩,ty,pos,iF,none⟩::dR,i',⟨sl',bT,cw,gd'⟩,p,dC))
  (ht:wo ⟨sl',bT,cw,gd'⟩ cf args.toList=ad (f,vs,x)) (hf:CX O f vs fm (1000000*nx+1000*i') z l (1000000*nx+1000*i')) (A:IF fm bT) (hs:l.map (·.1)=fm.map (·.1))
  (hk:∀k,RG O n ops draw nx (i'+1) dR ⟨(d,z)::sl',l++bT,cw,gd'⟩ (dC++[k]) R)
  (B:vZ (1000000*nx+1000*i') (cX vs)=ae:=by rfl) (D:tI (1000000*nx+1000*i') fm=ae:=by rfl) (H:zp (1000000*nx+1000*i') fm z.ak=ae:=by rfl) (N:zq (1000000*nx+1000*i') fm l=ae:=by rfl)
  (hp:p:=by exact Ba) (P:Nat.blt d n=ae:=by rfl):RG O n ops draw nx i os ⟨sl,mem,n0,gd⟩ ks R:=
 jO cq s hp (Ry (k:=(_,_)) (λc=>by
  intro F C Q m j g W a K X u T o;refine (Uv c J J (c7 P) J ht hf B D H N A.get) F C Q m j g W a K (λq b=>?_) u T<|λw y E G=>o w y E<|G.weaken<|λq b=>?_
  .omega
  .rcases b with b|b
   .exact .inl b
   .omega) akM (akL hs) (λ_ s=>s) (λ_ s=>s) (hk _))
end
open Rx
def uH(a b:E L):L:=if bZ a b=[]then 1 else(I (bZ a b) (Z (bZ a b)-1) 0)⁻¹
def tq(a b u n:E L):E L:=dJ (uH a b)<|eW u<|ml (cV a b) n
def mU:G->E L->E L->E L->E L->E L×E L
 |0,_,_,u,n=>(u,n)
 |k+1,a,b,u,n=>if b=[]then(u,n)else mU k b (dA<|bZ a b) n (tq a b u n)
def AL(s:G):G->E L->E L->E L->E L->Prop
 |0,_,b,_,_=>b=[]
 |k+1,a,b,u,n=>b=[]\/(Au s a b/\w O 67 [e .q (cV a b),e .q n] (e .q<|ml (cV a b) n)/\w O 74 [e .q u,e .q<|ml (cV a b) n] (e .q<|eW u<|ml (cV a b) n)/\
   w O 75 [aQ (uH a b),e .q<|eW u<|ml (cV a b) n] (e .q<|tq a b u n)/\AL s k b (dA<|bZ a b) n (tq a b u n))
abbrev lp(x:E L):aA:= .box 29 0 [.S .q x]
def axr{z u n p d v:E L}{A}(g:w O 67 [e .q z,e .q n] (e .q p))(l:w O 74 [e .q u,e .q p] (e .q d))(m:w O 75 [aQ A,e .q d] (e .q v)){i j k}(s:i≠j)(D:i<k)(hj:j<k):
  CX O 113 [e .q z,aQ A,.c<|.P i 0,.c<|.P j 0] [(i,lp n),(j,lp u)] k (.t []) [(i,lp v),(j,lp n)] k:=by
 refine ZO (λx=>if x=2 then i else j) (fm0:=[(2,lp n),(3,lp u)]) (fm0':=[(2,lp v),(3,lp n)]) (vs0:=[e .q z,aQ A,.c<|.P 2 0,.c<|.P 3 0]) Tryz.func113 J J ?_ J J J ?_ ?_ ?_ ?_ J ?_ J (by decide:([2,3]:E G).Nodup)
 .exact U J<|cG<|rc J J g<|rc J J l<|rc J J m<|M J<|Ga (st':=⟨[],[qJ [2,3],(2,lp v),(3,lp n)],3,[]⟩) aN<|axn cq J
 .intro f aY;have:f=2\/f=3:=by simpa using aY
  rcases this with rfl|rfl
  .exact⟨S,by simpa using D⟩
  .exact⟨S,qh⟩
 .intro a ha b hb h;have ha:a=2\/a=3:=xI;have hb:b=2\/b=3:=tH;rcases ha with rfl|rfl<;>rcases hb with rfl|rfl<;>simp at h<;>first|rfl|exact aF h s|exact aF h.symm s
 .intro f aY;have:f=2\/f=3:=ZQ;simpa using this
 .intro f b hb x B;have:x∈([]:E G):=by simp[or_false]at hb;rcases hb with⟨_,rfl⟩|⟨_,rfl⟩<;>simpa[aA.ak,b6,C.ak]using B
  cases this
 .intro f b hb x B;have:x∈([]:E G):=by simp[or_false]at hb;rcases hb with⟨_,rfl⟩|⟨_,rfl⟩<;>simpa[aA.ak,b6,C.ak]using B
  cases this
abbrev Fh(i a:G):aA:= .eB 113 [] [(ah,[.P i 0]),(ah,[.P a 0])]
def axs{s}(h1:1<=s)(hs:s<=100000000000){l}{a b u n}(p:AL s l a b u n){ic i j k}(N:ic≠i)(Q:ic≠j)(T:i≠j)(hc:ic<k)(hi:i<k)(hj:j<k):
  CX O 112 [e .q a,e .q b,.c<|.X ic] [(ic,Fh i j),(i,lp n),(j,lp u)] k (e .q<|fX l a b) [(ic,Fh i j),(i,lp (mU l a b u n).2),(j,lp (mU l a b u n).1)] k:=by
 refine ZO (λx=>if x=2 then ic else if x=3 then i else j) (fm0:=[(2,Fh 3 4),(3,lp n),(4,lp u)]) (fm0':=[(2,Fh 3 4),(3,lp (mU l a b u n).2),(4,lp (mU l a b u n).1)]) (vs0:=[e .q a,e .q b,.c<|.X 2]) Tryz.func112 J J ?_ J J J ?_ ?_ ?_ ?_ J ?_ J (by decide:([2,3,4]:E G).Nodup)
 .refine U J<|h<|ay<|bq (α:=G×(E L×E L)×E L×E L) (λx=>⟨[(0,e .q x.2.1.1),(1,e .q x.2.1.2),(2,.c<|.X 2)],[qJ [2,3,4],(2,Fh 3 4),(3,lp x.2.2.2),(4,lp x.2.2.1)],2,[]⟩) (λx=>AL s x.1 x.2.1.1 x.2.1.2 x.2.2.1 x.2.2.2/\fX x.1 x.2.1.1 x.2.1.2=fX l a b/\mU x.1 x.2.1.1 x.2.1.2 x.2.2.1 x.2.2.2=mU l a b u n) (λx=>x.1) (l,(a,b),u,n) ⟨p,J,J⟩ aN ?_;obtain⟨AI,hU⟩:∃AI,AI=mU l a b u n:=⟨_,J⟩;rw[<-hU];clear p;rintro⟨t,⟨f,g⟩,u,n⟩ ⟨h2,z,d⟩;simp only at h2 z d;refine h (U J<|F J (λA=>?_)<|λA=>?_)
  .have H:g≠[]:=λcH=>by subst cH;cases A
   clear A;cases t with
   |zero=>exact aF h2 H
   |succ t=>
    rw[AL]at h2
    rcases h2 with h2|⟨h2,c1,c2,c3,h5⟩
    .exact aF h2 H
    rw[fX,y H]at z
    rw[mU,y H]at d
    have BR:=akz h1 hs H h2
    have Kq:=nS (a:=f) H
    have lb:=h2.lb
    have K:=h2.rn
    have B:=h2.qr
    have m:uH f g=if bZ f g=[]then 1 else(I (bZ f g) (Z (bZ f g)-1) 0)⁻¹ :=rfl
    generalize hS:tq f g u n=ZR at*
    generalize uH f g=c at*
    generalize cV f g=jA at*
    generalize bZ f g=r at*
    refine di<|aS<|ay<|R<|rc J J BR<|M J<|R<|rc J J (If 1 S S)<|M J<|kp ⟨[(1,e .q g),(2,.c<|.X 2),(7,e .q jA),(8,e .q<|dA r),(10,.c<|.P 4001000 0)],[qJ [2,3,4],(2,Fh 3 4),(3,lp n),(4,lp u),(4001000,.box 44 0<|av .q c)],20,[]⟩ ?_<|λW=>U J ?_
    .refine R<|rcX J J (axr (i:=3) (j:=4) c1 c2 c3 S S S) ⟨J,J,fp⟩ J<|λkk=>M J<|rt J<|fF<|a4 (t,(g,dA r),n,ZR) ⟨h5,z,d⟩ (dV t) aN
    .refine F J (λh6=>?_) (λh6=>di ?_)
     .have v:r≠[]:=λcH=>by subst cH;cases h6
      rw[y v]at m;have hi:=atT Y r v Y (K v)<|B _;have o:=(B<|Z r-1).inv<|K v;rw[<-m]at hi o;have w:=Yl h1 Y c r Y o B;rw[show gI (uq c r)=dA r by rw[dA,y v,m]]at w;exact bQ J J hi J<|cG<|rc J J w<|M J<|eD W<|wk (bK J) ⟨bR J,bR J,bR J,bR J,bE J J,fp⟩
     .have v:r=[]:=by have h6:¬(Z r:V)>0:=bc h6;exact gx Y
      rw[q v]at m;subst v m;exact eD W<|wk (bK J) ⟨bR J,bR J,bR J,bR J,bE J J,fp⟩
  .have A:g=[]:=by have A:¬(Z g:V)>0:=bc A;exact gx Y
   subst A;have z:f=fX l a b:=by
    cases t with
    |zero=>exact z
    |succ t=>rwa[fX,q J]at z
   have d:(u,n)=AI:=by
    cases t with
    |zero=>exact d
    |succ t=>rw[mU,q J]at d;exact d
   rw[<-z,<-d];exact bs<|aS<|U J<|bX<|Ga (st':=⟨[(6,e .q f)],[qJ [2,3,4],(2,Fh 3 4),(3,lp n),(4,lp u)],20,[]⟩) aN<|RE cq J
 .intro D aY;have:D=2\/D=3\/D=4:=by simpa using aY
  rcases this with rfl|rfl|rfl
  .exact⟨S,by simpa using hc⟩
  .exact⟨S,by simpa using hi⟩
  .exact⟨S,qh⟩
 .intro a ha b hb p;have ha:a=2\/a=3\/a=4:=xI;have hb:b=2\/b=3\/b=4:=tH;rcases ha with rfl|rfl|rfl<;>rcases hb with rfl|rfl|rfl<;>simp at p<;>first|rfl|exact aF p N|exact aF p.symm N|exact aF p Q|exact aF p.symm Q|exact aF p T|exact aF p.symm T
 .intro D aY;have:D=2:=ZQ;simp[this]
 .intro D b hb x hx;have:x=3\/x=4:=by simp[or_false]at hb;rcases hb with⟨_,rfl⟩|⟨_,rfl⟩|⟨_,rfl⟩<;>simpa[aA.ak,et,b6,C.ak]using hx
  rcases this with rfl|rfl<;>simp
 .intro D b hb x hx;have:x=3\/x=4:=by simp[or_false]at hb;rcases hb with⟨_,rfl⟩|⟨_,rfl⟩|⟨_,rfl⟩<;>simpa[aA.ak,et,b6,C.ak]using hx
  rcases this with rfl|rfl<;>simp
def axt:w O 111 [c 1] (e .q [1]):=iT (l:=[]) j fh J J
def axu:w O 111 [c 0] (e .q []):=iT (l:=[]) j fh J J
def axv{s}(h1:1<=s)(hs:s<=100000000000){H}{a b f Q g u1 pe u p d v x1 x2 x3:E L}{n}(l:AL s H a b [1] [])(hr:fX H a b=f)(hU:(mU H a b [1] []).1=Q)(hb:b≠[])(r0:f≠[])(lr:Z f<=1000)(hc:I f (Z f-1) 0=n)
  (x:w O 114 [e .q f] (e .q g)) (z:w O 115 [aQ n] (.t [(ae,av .q n⁻¹),(ah,[.I .i64 0])])) (A:w O 75 [aQ n⁻¹,e .q Q] (e .q u1))
  (T:w O 65 [e .q b,e .q g] (.t [(ah,[.S .q pe]),(ah,[.S .q x1]),(ah,[.I .i64 0])])) (W:w O 65 [e .q u1,e .q pe] (.t [(ah,[.S .q x2]),(ah,[.S .q u]),(ah,[.I .i64 0])]))
  (B:w O 67 [e .q u,e .q a] (e .q p)) (D:w O 74 [e .q g,e .q p] (e .q d)) (Fi:w O 65 [e .q d,e .q b] (.t [(ah,[.S .q v]),(ah,[.S .q x3]),(ah,[.I .i64 0])])):
  w O 63 [e .q a,e .q b] (.t [(ah,[.S .q g]),(ah,[.S .q u]),(ah,[.S .q v])]):=by
 refine aK Tryz.func63 ?_
 have K:=cF.2 hb
 have X:=cF.2 r0
 have C:=axs h1 hs l (ic:=2002000) (i:=1003000) (j:=1002000) (k:=2003000) S S S S S S
 rw[hr,hU]at C
 generalize (mU H a b [1] []).2=N at C
 refine U J<|R<|rc J J axt<|rc J J axu<|M J ?_
 refine R<|Ys J J J<|λo=>rcX J J C ⟨J,J,J,j⟩ J<|λo=>M J ?_
 refine fq (st':=⟨[(0,e .q a),(1,e .q b),(7,.c<|.P 1002000 0),(9,e .q f)],[(1002000,lp Q)],3,[]⟩) aN ?_
 refine h<|U J<|F J (λl=>?_)<|λl=>aE ?_
 .have l:(Z f:V)=0:=dw l;exact aF l Y
 have m:w O 115 [aQ (I f (Int.toNat<|(Z f:V)-1) 0)] (.t [(ae,av .q n⁻¹),(ah,[.I .i64 0])]):=by rw[(Y:Int.toNat ((Z f:V)-1)=Z f-1),hc];exact z
 refine R<|rc J J x<|M J<|R<|rc J J m (M J ?_) (hp:=aH)
 refine R<|rc J J A<|M J ?_
 refine h<|U J<|F J (λl=>?_)<|λl=>aE ?_
 .have l:(Z b:V)=0:=dw l;exact aF l Y
 refine R<|rc J J T<|M J<|R<|rc J J W<|M J ?_
 refine R<|rc J J B<|rc J J D<|rc J J Fi<|M J ?_
 exact U J<|cN J
def Rx.Ht.inv{b k}{A}(a:Ht b A)(d:A k≠0):Ht b (K (A k)⁻¹):=by
 let ⟨D,g,h2,l⟩:=a;let ⟨z,m,f⟩:=l k;have n:z≠0:=λe=>by
  subst e;have:(D:L)*A k=0:=f;rcases Ab.1 this with a|a
  .exact Cn g a
  .exact d a
 refine⟨z,n,m,λi=>?_⟩;rw[lS];split
 .refine⟨D,h2,?_⟩;rw[<-f,lT,Rat.mul_inv_cancel _ d,lF]
 .exact⟨0,bg _,eh _⟩
def Rx.Ht.one{a}(b:1<=a):Ht a (K 1):=⟨1,S,b,λi=>by
 rw[lS];split
 .exact⟨1,b,lF _⟩
 .exact⟨0,bg _,eh _⟩⟩
def axw{n t}{a b}(d:Pz n t (bZ a b)):Ht (2^t) (K<|uH a b):=by
 unfold uH;split
 .exact Ht.one<|gG S
 next f=>exact d.ht.inv (k:=Z (bZ a b)-1)<|d.can.ne f
def Rx.Ht.uI{t s}{a}(b:Ht (2^t) (K a))(d:t<32*s):QS s a:=by have:=b.qs (mO d) 0;rwa[lS,q J]at this
def akO{d t}(a:1<=d):t+(t+1)*(d+1)+1<=(t+1)*3^d:=by have:=three a;have b:=gD (t+1) this;rw[yk]at b;rw[yk];omega
def akP{s t l w d}{a b u n}(i:Pz 12 t a)(k:Pz 12 t b)(m:b≠[])(x:Pz l w u)(z:Pz l w n)(p:Z a+1-Z b<=d)(f:d<=12)(N:l+11<=400)(v:s<=100000000000)(P:2*w+2*(t+(t+1)*d)+t+6<32*s):
  Au s a b/\jz O 67 [e .q (cV a b),e .q n] (e .q<|ml (cV a b) n)/\jz O 74 [e .q u,e .q<|ml (cV a b) n] (e .q<|eW u<|ml (cV a b) n)/\
   jz O 75 [aQ (uH a b),e .q<|eW u<|ml (cV a b) n] (e .q<|tq a b u n)/\Pz 12 (t+(t+1)*d) (dA<|bZ a b)/\Pz (l+11) (2*w+2*(t+(t+1)*d)+5) (tq a b u n):=by
 have A:Pz 12 (t+(t+1)*d) (cV a b):=(i.quo k m p).le f<|aL _
 have B:Pz 12 (t+(t+1)*d) (bZ a b):=i.rem k m p
 have C:=axw B
 have D:=A.mul z S
 have g:=x.sub D
 exact⟨i.xk k m p S S Y,SJ A z S Y Y v,x.MB D (s:=s) Y Y Y Y v,
  g.MC (C.uI Y) Y Y v,B.aM,(g.Ax C).le Y Y⟩
def akQ{A0 M0:Rx}:∀(k:G)(a b u n:E L),bp a->bp b->Z b<k->M0∣lx a-lx u*A0->M0∣lx b-lx n*A0->M0∣lx (fX k a b)-lx (mU k a b u n).1*A0
 |0,_,_,_,_,_,_,x,_,_=>by omega
 |k+1,a,b,u,n,m,f,z,g,h2=>by
  rw[fX,mU];split
  .exact g
  .rename_i l;have p:Z (dA<|bZ a b)<Z b:=by rw[EU (oZ m)];exact nS l
   refine akQ k b (dA<|bZ a b) n (tq a b u n) f (qC _) Y h2 ?_;have s:lx (dA<|bZ a b)=K (uH a b)*lx (bZ a b):=by
    unfold uH;split
    next d=>rw[d,Mc,ku,Rx.g6]
    next d=>exact vE d
   have e2:=Cm (a:=a) f l;have t:lx (bZ a b)=lx a-lx (cV a b)*lx b:=Aa ZS;rw[s,tq,xj,Cs,uy,t];have v:K (uH a b)*(lx a-lx (cV a b)*lx b)-K (uH a b)*(lx u-lx (cV a b)*lx n)*A0=K (uH a b)*((lx a-lx u*A0)-lx (cV a b)*(lx b-lx n*A0)):=by
    simp[Rx.mul_sub,Rx.ov,Rx.dc];refine ext λi=>?_
    simp[nK];grind
   rw[v];exact dE (dvd_sub g<|dE h2 _) _
def IG:lx [1]=1:=yp 1
def II:bp [(1:L)]:= .inr (S:(1:L)≠0)
def vJ n t(a:1<=n):Pz n t [1]:=⟨II,a,by rw[yp];exact Ht.one<|gG S⟩
def akR{m}(b:bp m):cV m [1]=m:=nP (Av _ _) b (by have:=Am b II S (a:=m) (by rw[IG];exact⟨lx m,(Rx.fO _).symm⟩);rw[IG,Rx.fO]at this;exact this.symm)
def ZT{m a}(d:bp m)(f:bD (lx m))(b:bp a)(g:a≠[])(i:Z a<Z m):Co (lx m) (lx a):=by
 rcases f.or (lx a)with h|h
 .have:=k9 h<|Ck b g;rw[fj d,fj b]at this;omega
 .exact h
def axx(m:E L):w O 14 [e .q [],e .q m] (.t [(ah,[.S .q []]),(ah,[.I .i64 10])]):=by refine aK Tryz.func14 ?_;exact U J<|bI<|U J<|F J (λh=>U J<|bX<|cY<|iX cq J<|Yo .q _)<|λh=>gL
def akS{a}{n d}(b:d≠0)(f:aC n<=2^a)(g:aC d<=2^a):Ht (2^a) (K<|Rat.divInt n d):=⟨d,b,g,λi=>by
 rw[lS];split
 .refine⟨n,f,?_⟩;rw[QQ];have:=Cn b;rw[s',yn,lT,k8 _ this,lF]
 .exact⟨0,bg _,eh _⟩⟩
def Rx.Ht.X1{a}{A}(b:Ht a A):Ht a (X 1*A):=by
 let ⟨D,d,h2,f⟩:=b;refine⟨D,d,h2,λi=>?_⟩;rw[lD];split
 .exact f _
 .exact⟨0,bg _,eh _⟩
def akT{a:G}:∀{l:E L},(∀x∈l,Ht (2^a) (K x))->Ht (2^((a+1)*Z l)) (lx l)
 |[],_=>by rw[ku];exact Ht.zero<|gG S
 |d::l,b=>by rw[B1];refine ((b d au).add (akT (a:=a) (l:=l) λx g=>b x<|ls _ g).X1).le ?_;have:=Mg a ((a+1)*Z l) 1;rw[Nat.pow_one]at this;rw[this,jg,yk,rh];exact dD S Y
def akU{a}{l}{b}(f:∀x∈l,Ht (2^a) (K<|tk x)):Pz (b+1) ((a+1)*(b+1)) (yF l b):=by have d:Z ((r (b+1) l).map tk)<=b+1:=Iq;refine⟨jV _,br (uw _) d,?_⟩;rw[yF,uu];refine(akT (a:=a) λx g=>?_).le<|dD S<|gD _ d;obtain⟨y,i,rfl⟩:=kd.1 g;exact f y<|Ho i
def axy{l}{most}(f:∀x∈l,o0 x):Pz (most+1) (8*(most+1)) (yG l most):=akU (a:=7) λx g=>by
 obtain⟨b,d,rfl⟩:=kd.1 g;have d:=f b d;refine akS (YM<|ai9 d) ?_ ?_
 .have:Ct (Ay b)=b.1:=y (S:¬(0:V)%8=7);rw[this];have:=d.1;omega
 .have:yD (Ay b)=qD b.2.1:=y (S:¬(0:V)%8=6);rw[this];unfold qD;have:=d.2.1;split<;>omega
def akV{n a}{z}(b:aJ n z)(d:32*n<=a):aC z<=2^a:=by
 have:(4294967296:G)^n=2^(32*n):=by rw[(S:(4294967296:G)=2^32),<-Ek]
 unfold aJ at b;rw[this]at b;exact br (ye b)<|dD S d
def axz{l}{most}(b:∀x∈l,o0 x):Pz (most+1) (193*(most+1)) (yF l most):=akU (a:=192) λx d=>
 akS (YM<|b x d) (akV (aik<|b x d) S) (akV (ail<|b x d) S)
def cZ.pz{m}(a:cZ m):Pz 5 7 m:=⟨a.can,a.l5,a.ht⟩
def cZ.ne{m}(a:cZ m):m≠[]:=λe=>by have:=a.l2;rw[e]at this;cases this
def akW{m}(a:cZ m){l}(b:∀x∈l,o0 x):Pz 4 32 (yG l<|Z m-2)/\Z (yG l<|Z m-2)<Z m:=by have d:=a.l2;have f:=a.l5;have p:=axy (most:=Z m-2) b;exact⟨p.le Y Y,kw p.len⟩
def Pz.axA{n t k}{a}(f:Pz n t a)(b:E L)(g:n<=1000)(i:t<32*k)(d:k<=1000000000):w O 16 [e .q a,e .q b] (cB<|decide<|a=b):=ajN d a b (br f.len g)<|f.qs i
def Pz.ZU{n t k}{a b}(f:Pz n t a)(g:a=b)(i:n<=1000)(l:t<32*k)(d:k<=1000000000):w O 16 [e .q a,e .q b] (cB ae):=by have:=f.axA b i l d;rwa[rA g]at this
def Pz.MF{n m t u K}{a b}(d:Pz n t a)(f:Pz m u b)(g:n<=12)(l:m<=100)(z:2*t+2*u+100<32*K)(p:K<=200000000000):w O 34 [e .q a,e .q b] (e .q<|ml a b):=
 auo (k:=K/2) Y Y p a b (br d.len g) (br f.len l) (d.qs Y) (f.qs Y) λj s i=>by
  have v:Ht (2^(t+u+4)) (lx<|lH a b j):=by
   rw[YD a b j s,<-Mg];let ⟨D,d1,d2,d3⟩:=d.ht;refine Ht.mul (n:=2^4) ⟨D,d1,d2,λi=>?_⟩ f.ht ?_ S
   .have x:lx (az (Z a-j) a) i=lx a (Z a-j+i):=by rw[dN,dN,aO,uS,<-aO]
    rw[x];exact d3 _
   .have:=Lv<|az (Z a-j) a;rw[Dg]at this;have:=d.len;omega
  exact v.qs (mO Y) i
def ZW{a b m}{t u}(f:cZ m)(g:Pz 12 t a)(i:Pz 12 u b)(n:Z a<Z m)(p:Z b<Z m)(v:t+u+200<3200000000000):Pz 4 (t+u+28) (fm a b m)/\(fm a b m).length<Z m/\lx m∣lx (fm a b m)-lx a*lx b/\w O 19 [e .q a,e .q b,e .q m] (e .q<|fm a b m):=by have x:=f.l5;have z:=f.l2;have k:=nS (a:=ml a b) f.ne;have l:=Pz.fm g i f.pz f.ne (d:=3) S Y;refine⟨⟨l.can,?_,l.ht.le<|dD S Y⟩,k,IC f.can f.ne,g.akA i f.pz f.ne (d:=3) (s:=100000000000) S S S Y Y S⟩;show(fm a b m).length<=4;have:(fm a b m).length<Z m:=k;omega
def axB a b m:fm a b m=fm b a m:=by rw[fm,fm,auw]
end Go.El
namespace Go.El
open Go Go.Proofs Go.RowKit
def akX{a}xs ids:∀x∈dL (xs.flatMap (cQ a)++fZ a ids),x∈(bN xs++da ids):=λk b=>by
 simp only[dL,gf,bl]at b;rcases b with h|h
 .exact eT _<|ff a xs k h
 .exact gO _<|kE a ids k h
def akY{b}(xs:E Operand) ids:∀a∈xs.flatMap (cQ b)++fZ b ids,b.kn a.1=ad a.2:=λa h=>by
 rcases bl.1 h with h|h
 .rcases js.1 h with⟨z,_,d⟩;exact eQ _ z a d
 .exact ly _ ids a h
section
variable{n:G}{sl sl':E (G×AV)}{mem bT:E (G×aA)}{nx:G}{gd gd':E (G×Bool)}{ops:Array Oper}{draw:Bool}{p:Pr}{ks dC:E Ks}{i i' n0 cw:G}
variable{R:St->Prop}{os:E Oper}{d t:G}{ty:eI}{pos:String}{iF:Array Edge}{dR:E Oper}
def rmk b f(h:runs dM n nx draw ops.toList os i ⟨sl,mem,n0,gd⟩ .t ks=(⟨ad d,.makeMap t none,ty,pos,iF,none⟩::dR,i',⟨sl',bT,cw,gd'⟩,p,dC))
  (g:RG O n ops draw nx (i'+1) dR ⟨(d,.c<|.X<|1000000*nx+1000*i')::sl',(1000000*nx+1000*i',.mp b f [])::bT,cw,gd'⟩ (ix draw dC ([],[.s d,.m<|1000000*nx+1000*i'])) R)
  (k:p:=by exact Ba) (a:Nat.blt d n=ae:=by rfl):RG O n ops draw nx i os ⟨sl,mem,n0,gd⟩ ks R:=
 jO cq h k (nv (λl=>⟨_,_,ab7 l J J (c7 a) J b f _,λ_ h=>gL,by
  funext key;cases key with
  |s j=>
   simp[St.kn,o,bw,aD,b8]
   by_cases e:d=j<;>simp[e]
  |m j=>
   simp[St.kn,o,bw,aD,b8]
   by_cases e:1000000*nx+1000*i'=j<;>simp[e],λ_ h=>gL,λ_ h=>by simpa[gw]using h⟩) (nw g))
def rlk{x a}{H}{b}{g}{m}(k:runs dM n nx draw ops.toList os i ⟨sl,mem,n0,gd⟩ .t ks=(⟨ad d,.lookup t x a H,ty,pos,iF,none⟩::dR,i',⟨sl',bT,cw,gd'⟩,p,dC))
  (T:St.ev ⟨sl',bT,cw,gd'⟩ x=ad (.c<|.X b)) (W:St.ev ⟨sl',bT,cw,gd'⟩ a=ad (.c<|.I g m)) {kt N}{P Q f}(l:o t dM=ad P) (hk:P.kind= .map kt N) (u:o kt dM=ad Q) (z:Q.kind= .int g) (A:o N dM=ad f)
 {xs}(hl:o b bT=ad (.mp ah f.agg xs)) {B}(hr:u5 ah g [m] xs=ad B) {v}(hv:Du H f.agg (B.getD<|f.zero.map ZV.qP) B.isSome=ad v)
  (hc:RG O n ops draw nx (i'+1) dR ⟨(d,v)::sl',bT,cw,gd'⟩ (ix draw dC (bN [x,a]++da [b],[.s d])) R)
  (hp:p:=by exact Ba) (D:Nat.blt d n=ae:=by rfl):RG O n ops draw nx i os ⟨sl,mem,n0,gd⟩ ks R:=
 jO cq k hp (nv (λC=>⟨_,_,ab8 cq C J J (c7 D) J T W l hk u z A hl hr hv _,akY [x,a] [b],qR ⟨sl',bT,cw,gd'⟩ d v,akX [x,a] [b],λ_ k=>by simpa[gw]using k⟩)<|nw hc)
def rmu{x b z}{a}{g}{m}{u}{k}{vc}(l:runs dM n nx draw ops.toList os i ⟨sl,mem,n0,gd⟩ .t ks=(⟨none,.mapUpdate t x b z,ty,pos,iF,none⟩::dR,i',⟨sl',bT,cw,gd'⟩,p,dC))
  (P:St.ev ⟨sl',bT,cw,gd'⟩ x=ad (.c<|.X a)) (Q:St.ev ⟨sl',bT,cw,gd'⟩ b=ad (.c<|.I g m)) (T:St.ev ⟨sl',bT,cw,gd'⟩ z=ad u) (W:sj u=ad (k,vc)) {kt vt}{H N}(v:o t dM=ad H) (hk:H.kind= .map kt vt) (A:o kt dM=ad N) (B:N.kind= .int g)
 {xs f}(hl:o a bT=ad (.mp ah k xs)) (D:u6 ah g [m] [.I g m] vc xs=ad f)
  (hc:RG O n ops draw nx (i'+1) dR ⟨sl',(a,.mp ah k f)::bT,cw,gd'⟩ (ix draw dC (bN [x,b,z]++da [a],[.m a])) R)
  (hp:p:=by exact Ba):RG O n ops draw nx i os ⟨sl,mem,n0,gd⟩ ks R:=
 jO cq l hp (nv (λC=>⟨_,_,ab9 cq C J J J P Q T W v hk A B hl D _,akY [x,b,z] [a],by
  funext key;cases key with
  |s j=>simp[St.kn,bw,aD]
  |m j=>
   simp[St.kn,o,bw,aD]
   by_cases e:a=j<;>simp[e],akX [x,b,z] [a],λ_ l=>by simpa[gw]using l⟩) (nw hc))
end
def SM(P:bW):G->E Field->Bool
 |_,[]=>ae
 |off,f::a=>decide (f.offset=off)&&SM P (off+P.cellsOf f.type) a
def AM(P:bW):E eI->G
 |[]=>0
 |t::a=>P.cellsOf t+AM P a
def yM(P:bW):G->ET->E eI->Bool
 |0,_,_=>ah
 |_+1,_,[]=>ah
 |f+1,T,[t]=>(match P.underlying t with
  |some (.int k)=>(match T with
   | .int d=>decide<|d=k
   |_=>ah)
  |some .bool=>(match T with
   | .bool=>ae
   |_=>ah)
  |some (.slice a)=>(match T with
   | .sl b=>yM P f b [a]&&decide (P.cellsOf a=b.n)&&decide (b.n<=P.bytesOf a)
   |_=>ah)
  |some (.struct fs)=>yM P f T (fs.toList.map (·.type))&&SM P 0 fs.toList&&decide (AM P (fs.toList.map (·.type))=P.cellsOf t)
  |some (.array n a)=>yM P f T (bx n a)&&decide (AM P (bx n a)=P.cellsOf t)
  |_=>ah)
 |f+1,T,t::g::i=>(match T with
  | .pr A B=>yM P f A [t]&&yM P f B (g::i)
  |_=>ah)
def yN:(T:ET)->T.den->Prop
 | .int k,n=>(Lit.int k n).wf=ae
 | .bool,_=>True
 | .z,_=>False
 | .q,_=>False
 | .sl T,xs=>∀x∈xs,yN T x
 | .pr A B,x=>yN A x.1/\yN B x.2
def SN{k n:Type}{f:k->Option n}:∀{l:E k}{g:E n},l.mapM f=ad g->Z g=Z l/\∀(i:G)(x:k),l[i]? =ad x->∃p,g[i]? =ad p/\f x=ad p
 |[],g,d=>by simp[ak0]at d;cases d;exact⟨J,λi x hx=>by simp at hx⟩
 |a::l,g,d=>by
  rw[Jp]at d;cases m:f a with
  |none=>rw[m]at d;cases d
  |some b=>
   rw[m]at d
   cases hl:l.mapM f with
   |none=>rw[hl]at d;cases d
   |some s=>
    rw[hl]at d
    cases d
    let ⟨h1,h2⟩:=SN hl
    refine⟨B3,λi x hx=>?_⟩
    cases i with
    |zero=>simp[oG]at hx;subst hx;exact⟨b,J,m⟩
    |succ i=>simpa using h2 i x Gx
section
variable{H:Type}{enc:eI×aT->H}{P:bW}{w:World}{base:G}{spare:G->Bool}{held:Bool}
def SO(enc:eI×aT->H)(P:bW)(w:World)(base:G)(spare:G->Bool)(held:Bool):E eI->E aT->E (CF H)->Prop
 |[],cs,ds=>cs=[]/\ds=[]
 |t::i,cs,ds=>∃b f d g,cs=b++f/\ds=d::g/\(∃a ps,nU enc P w base spare held a t b=ad (d,ps))/\SO enc P w base spare held i f g
def ak1{a:G}{g:E aT}:∀{i:E Field}{off:G}{xs:E (CF H×E MemPlace)},SM P off i=ae->Z g=off+AM P (i.map (·.type))->
  (i.mapM λf=>nU enc P w base spare held a f.type<|(az f.offset g).take<|P.cellsOf f.type)=ad xs->SO enc P w base spare held (i.map (·.type)) (az off g) (xs.map (·.1))
 |[],off,xs,_,hl,d=>by simp[ak0]at d;cases d;simp[Fa,AM]at hl⊢;exact⟨vX Y,J⟩
 |f::i,off,xs,ho,hl,d=>by
  simp[SM]at ho;rw[Jp]at d;simp[gX,AM]at hl;cases k:nU enc P w base spare held a f.type ((az f.offset g).take<|P.cellsOf f.type)with
  |none=>rw[k]at d;cases d
  |some b=>
   rw[k]at d
   cases hm:(i.mapM λf=>nU enc P w base spare held a f.type<|(az f.offset g).take<|P.cellsOf f.type)with
   |none=>rw[hm]at d;cases d
   |some s=>
    rw[hm]at d
    cases d
    rw[ho.1]at k
    refine⟨(az off g).take<|P.cellsOf f.type,az (off+P.cellsOf f.type) g,b.1,s.map (·.1),?_,J,⟨a,b.2,k⟩,ak1 (off:=off+P.cellsOf f.type) ho.2 Y hm⟩
    rw[<-se,uX]
def ak2{d n:G}{a:eI}{g:E aT}:∀{m k:G}{xs:E (CF H×E MemPlace)},k+m=n->Z g=n*P.cellsOf a->
  ((List.range' k m).mapM λi=>nU enc P w base spare held d a<|(az (i*P.cellsOf a) g).take<|P.cellsOf a)=ad xs->SO enc P w base spare held (bx m a) (az (k*P.cellsOf a) g) (xs.map (·.1))
 |0,k,xs,p,hl,f=>by simp[List.range'_zero,ak0]at f;cases f;exact⟨vX (by rw[hl,<-p];exact aL _),J⟩
 |m+1,k,xs,p,hl,f=>by
  rw[FB,Jp]at f;cases l:nU enc P w base spare held d a ((az (k*P.cellsOf a) g).take<|P.cellsOf a)with
  |none=>rw[l]at f;cases f
  |some b=>
   rw[l]at f
   cases hm:((List.range' (k+1) m).mapM λi=>nU enc P w base spare held d a<|(az (i*P.cellsOf a) g).take<|P.cellsOf a)with
   |none=>rw[hm]at f;cases f
   |some s=>
    rw[hm]at f
    cases f
    refine⟨(az (k*P.cellsOf a) g).take<|P.cellsOf a,az ((k+1)*P.cellsOf a) g,b.1,s.map (·.1),?_,J,⟨d,b.2,l⟩,ak2 (k:=k+1) Y hl hm⟩
    rw[Sn,<-se,uX]
def ak3{b:eI}:∀{n:G}{a:E (CF H)},Z a=n->Fj P (bx n b) a=SP P b a
 |0,[],_=>rfl
 |n+1,d::a,h=>by simp[Bb,Fj,SP];rw[ak3 (n:=n) fg]
def ak4{f:eI}{d:CF H}:∀{a:E (CF H)},d∈a->∀n∈d.weights P f,n∈SP P f a
 |x::a,b,n,g=>by
  simp[SP];rcases b7.1 b with rfl|b
  .exact .inl g
  .exact .inr<|ak4 b n g
def axE{b a}i d:ZX (ZX ⟨b,a,none⟩ i) d=⟨b,a+i+d,none⟩:=by unfold ZX;split<;>split<;>simp_all
def ak5(a:eI):∀n,AM P (bx n a)=n*P.cellsOf a
 |0=>by simp[AM]
 |n+1=>by rw[Bb,AM,ak5 a n,Sn,JB]
section
variable{t:eI}{c:E aT}{fuel:G}{d:CF H}{ps:E MemPlace}
def trod_bool(f:P.underlying t=ad .bool)(a:nU enc P w base spare held (fuel+1) t c=ad (d,ps)):∃b,c=[.bool b]:=by
 unfold nU at a;rw[f]at a;rcases c with _|⟨v,_|⟨v2,r⟩⟩
 .simp at a
 .cases v<;>first| (simp at a;done)|exact⟨_,rfl⟩
 .cases v<;>simp at a
def trod_int{k}(b:P.underlying t=ad (.int k))(a:nU enc P w base spare held (fuel+1) t c=ad (d,ps)):∃n,c=[.int k n]/\(Lit.int k n).wf=ae:=by
 unfold nU at a;rw[b]at a;rcases c with _|⟨v,_|⟨v2,r⟩⟩
 .simp at a
 .cases v with
  |int f n=>
   simp only at a
   split at a
   next e=>exact⟨n,by rw[e.1],e.2⟩
   .cases a
  |_=>simp at a
 .cases v<;>simp at a
def trod_slice{l}(n:P.underlying t=ad (.slice l))(f:nU enc P w base spare held (fuel+1) t c=ad (d,ps)):c=[.slice none 0 0]\/
  ∃a g k b rest,c=[.slice (ad a) g k]/\g<=k/\d= .slice (b.map (·.1)) rest/\(bJ g).mapM (λi=>(w.cells? base (a.add<|i*P.cellsOf l)<|P.cellsOf l).bind<|nU enc P w base spare held fuel l)=ad b:=by
 unfold nU at f
 rw[n]at f
 rcases c with _|⟨v,_|⟨v2,r⟩⟩
 .simp at f
 .cases v with
  |slice a g k=>
   cases a with
   |none=>
    cases g with
    |zero=>cases k with
     |zero=>exact .inl J
     |succ _=>simp at f
    |succ _=>simp at f
   |some a=>
    simp only at f
    split at f
    .rename_i m;refine .inr ⟨a,g,k,?_⟩;cases hm:(bJ g).mapM (λi=>(w.cells? base (a.add<|i*P.cellsOf l)<|P.cellsOf l).bind<|nU enc P w base spare held fuel l)with
     |none=>rw[hm]at f;cases f
     |some b=>
      rw[hm]at f
      simp[Option.bind_some]at f
      obtain⟨rest,_,rfl,_⟩:=f
      exact⟨b,_,J,m.2.1,J,J⟩
    .cases f
  |_=>simp at f
 .cases v<;>simp at f
def trod_struct{b}(g:P.underlying t=ad (.struct b))(a:nU enc P w base spare held (fuel+1) t c=ad (d,ps)):Z c=P.cellsOf t/\∃xs,(b.toList.mapM λf=>nU enc P w base spare held fuel f.type<|(az f.offset c).take<|P.cellsOf f.type)=ad xs/\d= .agg (xs.map (·.1)):=by
 unfold nU at a;rw[g]at a;simp only at a;split at a
 next i=>simp at a;obtain⟨xs,k,l,_⟩:=a;exact⟨i,xs,k,l.symm⟩
 .cases a
def trod_array{n}{b}(f:P.underlying t=ad (.array n b))(a:nU enc P w base spare held (fuel+1) t c=ad (d,ps)):Z c=P.cellsOf t/\∃xs,((bJ n).mapM λi=>nU enc P w base spare held fuel b<|(az (i*P.cellsOf b) c).take<|P.cellsOf b)=ad xs/\d= .agg (xs.map (·.1)):=by
 unfold nU at a;rw[f]at a;simp only at a;split at a
 next g=>simp at a;obtain⟨xs,k,l,_⟩:=a;exact⟨g,xs,k,l.symm⟩
 .cases a
end
def axF{a:Addr}{n}{d}(f:w.cells? base a n=ad d):Z d=n/\∀b(g:b<Z d),w.cell? (a.add b)=ad d[b]:=by
 unfold World.cells? at f;split at f
 .let ⟨i,h2⟩:=SN f;rw[sY]at i;refine⟨i,λb g=>?_⟩;let ⟨y,k,l⟩:=h2 b b<|k7 Y;rw[df g]at k;cases k;exact l
 .cases f
def ak6{b:Type}{Q:G->b->Prop}:∀n,(∀i,i<n->∃x,Q i x)->∃l:E b,Z l=n/\∀i(a:i<Z l),Q i l[i]
 |0,_=>⟨[],J,λi a=>aF a<|nZ i⟩
 |n+1,a=>by
  let ⟨l,h1,h2⟩:=ak6 n<|λi d=>a i Y;let ⟨x,hx⟩:=a n<|dV n;refine⟨l++[x],B3,λi d=>?_⟩;rw[List.getElem_append];split
  next f=>exact h2 i f
  .rename_i f;have:i=n:=by simp at d;omega
   subst this;simpa using hx
def IJ:∀(f:G)(T:ET)(ts:E eI),yM P f T ts=ae->∀(l:E aT)(ds:E (CF H)),SO enc P w base spare held ts l ds->(∀n∈Fj P ts ds,n<=reachBytes)->
  ∃x:T.den,dq (λb aG=>w.cell? ⟨b,aG,none⟩) T x l/\yN T x
 |0,_,_,g,_,_,_,_=>by cases g
 |_+1,_,[],g,_,_,_,_=>by cases g
 |f+1,T,t::t'::ts,g,l,ds,hc,z=>by
  cases T with
  |pr A B=>
   simp[yM]at g
   obtain⟨N,a7,d,s,rfl,rfl,D,h3⟩:=hc
   simp[Fj]at z
   let ⟨x,S,x2⟩:=IJ f A [t] g.1 N [d] ⟨N,[],d,[],(ji N).symm,J,D,J,J⟩ (λn p=>by simp[Fj]at p;exact z n<|.inl p)
   let ⟨y,U,q⟩:=IJ f B (t'::ts) g.2 a7 s h3<|λn p=>z n<|.inr p
   exact⟨(x,y),⟨N,a7,J,S,U⟩,x2,q⟩
  |_=>simp[yM]at g
 |f+1,T,[t],g,l,ds,hc,z=>by
  obtain⟨N,a7,d,s,rfl,rfl,⟨v,ps,D⟩,rfl,rfl⟩:=hc;rw[ji];have z:∀n∈d.weights P t,n<=reachBytes:=λn p=>z n (by simp[Fj];exact p)
  cases v with
  |zero=>cases D
  |succ v=>
   unfold yM at g
   cases hu:P.underlying t with
   |none=>rw[hu]at g;cases g
   |some u=>
    rw[hu]at g
    cases u with
    |bool=>
     cases T with
     |bool=>let ⟨b,hb⟩:=trod_bool hu D;exact⟨b,hb,j⟩
     |_=>simp at g
    |int k=>
     cases T with
     |int k'=>
      have s:k'=k:=aV g
      subst s
      let ⟨n,p,Q⟩:=trod_int hu D
      exact⟨n,p,Q⟩
     |_=>simp at g
    |slice s=>
     cases T with
     |sl K=>
      simp at g
      let ⟨⟨F,g2⟩,O⟩:=g
      rcases trod_slice hu D with rfl|⟨a,len,cap,elems,rest,rfl,hlc,rfl,R⟩
      .exact⟨[],⟨_,J,none,0,J,aL _,au,.inl J⟩,λx C=>by cases C⟩
      .let ⟨m1,m2⟩:=SN R;rw[sY]at m1;have V:(Z elems+Z rest)*P.bytesOf s<=reachBytes:=z _ (by simp[ZY,hu]);have hwe:∀n∈SP P s (elems.map (·.1)),n<=reachBytes:=λn p=>z n (by simp[ZY,hu,p])
       have key:∀i,i<len->∃x:K.den,∃l:E aT,(Z l=K.n/\dq (λb aG=>w.cell? ⟨b,aG,none⟩) K x l/\∀I(hj:I<Z l),w.cell? ((a.add<|i*K.n).add I)=ad l[I])/\yN K x:=by
        intro i L;let ⟨y,U,q⟩:=m2 i i<|k7 L;cases W:w.cells? base (a.add<|i*P.cellsOf s) (P.cellsOf s)with
        |none=>rw[W]at q;cases q
        |some l=>
         rw[W]at q
         let ⟨l1,l2⟩:=axF W
         have hy:y.1∈elems.map (·.1):=kd.2 ⟨y,Ol U,J⟩
         let ⟨x,S,x2⟩:=IJ f K [s] F l [y.1] ⟨l,[],y.1,[],(ji l).symm,J,⟨v,y.2,q⟩,J,J⟩ (λn p=>by simp[Fj]at p;exact hwe n<|ak4 hy n p)
         rw[g2]at l1 l2
         exact⟨x,l,⟨l1,S,l2⟩,x2⟩
       let ⟨xs,q1,q2⟩:=ak6 len key;refine⟨xs,⟨_,J,ad a,cap,by rw[q1],Y,?_,?_⟩,λx C=>?_⟩
       .have e1:Z xs*K.n<=(Z elems+Z rest)*P.bytesOf s:=mA Y O;simp[reachBytes]at V;omega
       .by_cases h0:len=0
        .left;exact gx Y
        .right;obtain⟨b,off,M⟩:=a;have X:M=none:=by let ⟨l,⟨c1,_,c3⟩,_⟩:=q2 0 Y;have:=K.CP;have:=c3 0 Y;simpa[ZX]using World.cell?_spot this
         subst X;refine⟨b,off,J,λi L=>?_⟩;let ⟨l,⟨c1,c2,c3⟩,_⟩:=q2 i L;refine⟨l,c1,c2,λI hj=>?_⟩;have:=c3 I hj;rw[axE]at this;exact this
       .let ⟨i,L,s⟩:=Gg C;let ⟨_,_,Q⟩:=q2 i L;rw[<-s];exact Q
     |_=>simp at g
    |struct fs=>
     simp at g
     let ⟨⟨F,g2⟩,O⟩:=g
     let ⟨l1,xs,C,hd⟩:=trod_struct hu D
     subst hd
     have:=ak1 (off:=0) g2 Y C
     rw[sr]at this
     exact IJ f T _ F N _ this (λn p=>z n<|by simpa[ZY,hu]using p)
    |array n s=>
     simp at g
     let ⟨F,O⟩:=g
     let ⟨l1,xs,C,hd⟩:=trod_array hu D
     subst hd
     rw[M8]at C
     have DT:(xs.map (·.1)).length=n:=by rw[dj,(SN C).1];simp
     have:=ak2 (n:=n) (k:=0) Y (by rw[l1,<-O,ak5]) C
     rw[so,sr]at this
     refine IJ f T _ F N _ this<|λm R=>z m ?_
     rw[ak3 DT]at R
     simpa[ZY,hu]using R
    |_=>simp at g
def Z0{f}{T}{t}{v}{d:CF H}{ps}(g:yM P f T [t]=ae)(i:DataW.Trod enc P w base spare held t v d ps)(k:∀n∈d.weights P t,n<=reachBytes):
  ∃x:T.den,dq (λb l=>w.cell? ⟨b,l,none⟩) T x v.cells.toList/\yN T x:=by
 let ⟨fuel,m⟩:=i
 refine IJ f T [t] g _ [d] ⟨_,[],d,[],(ji _).symm,J,⟨fuel,ps,m⟩,J,J⟩ (λn a=>?_)
 simp[Fj]at a
 exact k n a
def axH{f:Reach}{t:eI}{v:aT}(d:(match P.underlying t with|some (.struct _)=>ae|some (.array _ _)=>ae|_=>ah)=ae)(a:Value.okWide P w f base t v):∃b,v= .agg b:=by
 unfold Value.okWide at a;split at d
 next e=>rw[e]at a;let ⟨b,a,_⟩:=a;exact⟨b,a⟩
 next e=>rw[e]at a;let ⟨b,a,_⟩:=a;exact⟨b,a⟩
 .cases d
def axI{g}{T}{x:T.den}{b}(d:dq g.H T x (Value.agg b).cells.toList):bh g (.a<|av T x) (.agg b):=⟨b.toList,au,AS T x _ d⟩
end
end Go.El
