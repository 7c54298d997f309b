/- The engine, part 19: append. Own work; no condition. -/
import Derived.Deep.AppendSrc
import Derived.Deep.DeepAppendWide
import Derived.Test.YtceihkmakfdcnaaGreatA2
set_option linter.all false
set_option maxHeartbeats 16000000
set_option maxRecDepth 100000
open Bool renaming true->af
open Go renaming Program->bZ,Value->a4,World->cD,TypeId->dI,builtin->J6,Oper->bh,Operand->dQ
open Go.Act renaming put->gM
open Go.Builtin renaming firstCells->xR,lenOf->VV,append_->vI,zeroCells->J5
open Go.Deferred renaming ofValue->F1
open Go.El renaming iO->o
open Go.Instr renaming sliceBound->OU,sliceAt->Pt,sliceBounds->vq,slice->V6,buildSlice->FD
open Go.Oper renaming wp->m0,upon->m5
open Go.Region renaming wanted->gH
open Go.Result renaming andThen->df
open Go.Sem renaming run_bind->c9,run->jH
open Go.World renaming block_lt_of_cell?->Ch
open List renaming length->Z,drop->az,take->h,replicate->bp
open Nat renaming ble->eJ
open Option renaming some->ad
open Option.some renaming inj->V5
open _root_ renaming Nat->Y,List->V,Option->aw
namespace Go.El
open Go Go.RowKit
section
variable{P:bZ}{tt:TT}{n:Y}
def VU{g}{c}{f}{v}(cF:da g (.S c f) v):
  ∃d:V a4,(∀W:cD,Sub g.H W->(xR c.n (Z f) v).run P W= .ok d.toArray W)/\Z d=Z f*c.n/\(∀i(cF:i<Z f),cV g.H c f[i] ((az (i*c.n) d).take c.n))/\∀u∈d,nG u=af:=by
 obtain⟨a,s,rfl,I,J,r⟩:=cF
 by_cases q:f=[]
 .subst q;refine⟨[],λW _=>?_,ay,ay,ay⟩;cases a with
  |none=>simp[xR,pure]
  |some a=>simp[xR,loadCells,loadCellsFrom,pure]
 .rcases r with r|⟨b,off,rfl,r⟩
  .exact absurd r q
  .let d:=(List.range<|Z f*c.n).map λk=>(g.H b<|off+k).getD undef
   have t:Z d=Z f*c.n:=by simp[d]
   have l:∀i(F:i<Z f),∃m,Z m=c.n/\cV g.H c f[i] m/\(az (i*c.n) d).take c.n=m/\∀j(K:j<Z m),g.H b (off+(i*c.n+j))=ad m[j]:=by
    intro i F;let ⟨m,hl,x,hc⟩:=r i F;have L:(i+1)*c.n<=Z f*c.n:=dT _ G;rw[fD,hO]at L;refine⟨m,hl,x,?_,λj K=>by rw[<-qk];exact hc j K⟩;apply sL
    .simp[d];omega
    .intro j w M;simp only[qm,sC,d,z2,J3];rw[<-qk,hc j M];rfl
   have p:∀k(Q:k<Z d),∃v,g.H b (off+k)=ad v/\d[k]=v/\nG v=af:=by
    intro k Q;have A:=c.zl;have X:k<Z f*c.n:=G;have y:k/c.n<Z f:=xN (by rw[gN];exact X);have N:k%c.n<c.n:=fb _ A;let ⟨m,hl,x,B,hc⟩:=l (k/c.n) y;have e:k/c.n*c.n+k%c.n=k:=by rw[gN];exact qx k c.n
    have:=hc (k%c.n) G;rw[e]at this;refine⟨_,this,?_,?_⟩
    .simp only[d,z2,J3,this,qe]
    .exact(zn (g:=g) c _ _ x).one (Ci c _) _<|ru _
   refine⟨d,λW C=>?_,t,λi F=>?_,λu z=>?_⟩
   .simp only[xR,loadCells];have:=run_loadCellsFrom (P:=P) (W:=W) b (Z f*c.n) 0 off d #[] t (λj K=>by let ⟨v,D,o,_⟩:=p j K;rw[jd,C _ _ _ D,o]);simpa using this
   .let ⟨m,hl,x,B,_⟩:=l i F;rw[B];exact x
   .obtain⟨k,Q,rfl⟩:=J4 z;let ⟨v,_,o,E⟩:=p k Q;rw[o];exact E
def agS{W}{x A ty B L}{c:TypeInfo}(l:P.underlying x=ad (.slice B))(p:P.underlying A=ad (.slice L))(M:P.info? B=ad c){f a d}{r}{m}(Q:(VV r).run P W= .ok m W)
 {g vs}{F}(t:(xR c.size m r).run P W= .ok g.toArray W) (S:W.heap[f]? =ad (.cells vs.toArray F (0,0))) (i:∀u∈g,nG u=af) (v:a+m<=d) (H:a*c.size+Z g<=Z vs):
  (vI #[x,A] ty #[.slice (ad ⟨f,0,none⟩) a d,r]).run P W= .ok (.slice (ad ⟨f,0,none⟩) (a+m) d) (iB W f (cN vs g<|a*c.size) F):=by
 have k:=zG (P:=P) f g W vs (a*c.size) 0 S G i
 simp only[jd]at k
 unfold vI
 simp only[tW,mn,vo]
 rw[c9,run_underlying l]
 simp only[df]
 rw[c9,run_sizeOf M]
 simp only[df]
 rw[c9,run_underlying p]
 simp only[df,pure_bind,gY,bN,CN,b9]
 rw[c9,Q]
 simp only[df,v,b9]
 rw[c9,t]
 simp only[df,k8,eF]
 rw[c9,k]
 rfl
def FF(d:Y->Prop)(g:Gh)(W:cD)(f:dI)(c:ET)(xs:V c.den)(v:a4):Prop:=
 (v= .slice none 0 0/\xs=[])\/∃b a,∃vs:V a4,v= .slice (ad ⟨b,0,none⟩) (Z xs) a/\W.heap[b]? =ad (.cells vs.toArray f (0,0))/\
   Z vs=a*c.n/\Z xs<=a/\Z xs*c.n<=140737488355328/\(∀i(h:i<Z xs),cV g.H c xs[i] ((az (i*c.n) vs).take c.n))/\d b/\∀o,g.H b o=none
def VW{a:Type}(vs:V a) n i m(c:i<m):h n ((h (m*n) vs).drop<|i*n)=(az (i*n) vs).take n:=by have d:(i+1)*n<=m*n:=dT _ c;rw[fD,hO]at d;rw[List.drop_take,List.take_take];congr 1;omega
def agT{c:Type}(a vs:V c) n m i(d:Z a=m*n)(f:m<=i):h n (az (i*n)<|a++vs)=(az ((i-m)*n) vs).take n:=by have g:m*n<=i*n:=dT _ f;rw[List.drop_append,qp G,sF,d,Nat.sub_mul]
def VX{c:Type}(a vs:V c) n m i(g:Z a=m*n)(d:i<m):h n (az (i*n)<|a++vs)=(az (i*n) a).take n:=by have f:(i+1)*n<=m*n:=dT _ d;rw[fD,hO]at f;rw[zI G,vw bX]
def VY{H}{a}{xs c}{f g rest}(k:Z f=Z xs*a.n)(l:Z g=Z c*a.n)(m:∀i(d:i<Z xs),cV H a xs[i] ((az (i*a.n) f).take a.n))(p:∀i(d:i<Z c),cV H a c[i] ((az (i*a.n) g).take a.n)):
  ∀i(d:i<Z (xs++c)),cV H a (xs++c)[i] (h a.n<|az (i*a.n)<|f++g++rest):=by
 intro i r
 rw[List.getElem_append]
 split
 .rename_i d;rw[kF,VX f _ a.n (Z xs) i k d];exact m i d
 .rename_i d;simp only[hP]at r;rw[kF,agT f _ a.n (Z xs) i k G,VX g _ a.n (Z c) _ l G];exact p _ G
def agU{z3:Y->Prop}{g}{W}(p:Sub g.H W){L E2 t1 t2 ty}{m}{xs l}{v cC}{d:TypeInfo}{fK}(CO:P.underlying t1=ad (.slice L))(ij:P.underlying t2=ad (.slice E2))(M:P.info? L=ad d)(hz:d.zero=ad fK)(sM:fK.cells.size=d.size)(Q:d.size=m.n)
  (hv:FF z3 g W L m xs v) (hy:da g (.S m l) cC) (hb:((Z xs+Z l)+(Z xs+Z l)/4+192)*d.bytes<=281474976710656) (lJ:(Z xs+Z l)*m.n<=140737488355328) (hN:z3 W.heap.size):
  ∃v' r,(vI #[t1,t2] ty #[v,cC]).run P W= .ok v' r/\FF z3 g r L m (xs++l) v'/\W.heap.size<=r.heap.size/\(∀k,k<W.heap.size->cy v≠ad k->r.heap[k]? =W.heap[k]?)/\r.os=W.os/\r.tape=W.tape/\r.output=W.output/\Sub g.H r/\(∀k,cy v'=ad k->W.heap.size<=k\/cy v=ad k):=by
 let ⟨us,s,x,O,R⟩:=VU (P:=P) hy
 have A:Sub g.H W.drew:=p
 have K:=s W p
 have U:=s W.drew A
 have X:∀o,g.H W.heap.size o=none:=by
  intro o;cases hv:g.H W.heap.size o with
  |none=>rfl
  |some v=>
   have:=Ch W _<|p _ _ _ hv
   simp at this
 have B:∀w':cD,(VV cC).run P w'= .ok (Z l) w':=by obtain⟨a,C,rfl,_⟩:=hy;intro w';rfl
 have FE:=m.zl
 have F:∀(base:aw Addr)(c:Y)(f:V a4),v= .slice base (Z xs) c->(xR d.size (Z xs)<|.slice base (Z xs) c).run P W.drew= .ok f.toArray W.drew->Z f=Z xs*m.n->(∀i(cF:i<Z xs),cV g.H m xs[i] ((az (i*m.n) f).take m.n))->c<Z xs+Z l->
   ∃v' r,(vI #[t1,t2] ty #[v,cC]).run P W= .ok v' r/\FF z3 g r L m (xs++l) v'/\W.heap.size<=r.heap.size/\(∀k,k<W.heap.size->cy v≠ad k->r.heap[k]? =W.heap[k]?)/\r.os=W.os/\r.tape=W.tape/\r.output=W.output/\Sub g.H r/\(∀k,cy v'=ad k->W.heap.size<=k\/cy v=ad k):=by
  intro base c f hv hold FG hor iN
  subst hv
  have xS:Src P d.size t2 cC (Z l) us W:=⟨.inl ⟨_,ij⟩,B,by rw[Q];exact K,by rw[Q];exact U,by rw[Q];exact x,λu hu=>by have:=R u hu;revert this;cases u<;>simp[nG,Value.oneCell']⟩
  have D:((Z xs+Z l:Y):Int)<=9223372036854775807:=by have:(Z xs+Z l)*1<=(Z xs+Z l)*m.n:=jh _ FE;omega
  have hr:=run_append_grow_src (P:=P) W t1 t2 ty L d fK CO M hz base (Z xs) c f hold cC (Z l) us xS iN D<|growslice_fits_wide iN hb
  have sD:=grownCap_ge W (Z xs+Z l) c L
  refine⟨_,_,hr,.inr ⟨W.heap.size,grownCap W (Z xs+Z l) c L,f++us++(J5 fK.cells<|grownCap W (Z xs+Z l) c L-(Z xs+Z l)).toList,ay,by rw[show W.heap.size=W.drew.heap.size from J,heap_alloc_new];congr 2;apply Cc;simp,?_,by simpa using sD,by simpa using lJ,VY FG x hor O,hN,X⟩,ay,?_,J,J,J,?_,?_⟩
  .simp only[hP,FG,x,FI,size_zeroCells,sM,Q,<-fD];congr 1;omega
  .intro k I _;exact heap_alloc_old W.drew _ I
  .exact zK A _
  .intro k I;simp only[cy,ar]at I;exact .inl G
 rcases hv with⟨rfl,rfl⟩|⟨b,C,vs,rfl,hh,q,hle,asP,hr,hNb,hH⟩
 .by_cases VZ:l=[]
  .subst VZ;refine⟨.slice none 0 0,W,?_,.inl ⟨J,J⟩,a7 _,λ_ _ _=>rfl,J,J,J,p,by simp[cy]⟩;have h0:us=[]:=fB (by simpa using x);subst h0;rw[<-Q]at K;simp[vI,run_underlying CO,run_underlying ij,sizeOf,typeInfo,M,B];have h3:(xR d.size 0 cC).run P W= .ok #[] W:=by simpa using K
   rw[h3];rfl
  .have:=cQ.2 VZ;exact F none 0 [] J (run_firstCells_none W.drew _ 0 0 0) ay ay (by simpa using this)
 .by_cases t:Z xs+Z l<=C
  .have nE:b<W.heap.size:=(fQ.1 hh).1;have w:Z xs*d.size+Z us<=Z vs:=by rw[x,q,Q,<-fD];exact dT _ t
   have iR:=agS (P:=P) (ty:=ty) CO ij M (B W) (by rw[Q];exact K) hh R t w;refine⟨_,_,iR,.inr ⟨b,C,cN vs us<|Z xs*d.size,ay,xD nE,by rw[xF _ _ _ w];exact q,by simpa using t,by simpa using lJ,?_,hNb,hH⟩,zJ,?_,J,J,J,zH p hH,?_⟩
   .unfold cN;rw[Q];refine VY ?_ x (λi M=>?_) O
    .simp only[fp];rw[q];have:=dT m.n hle;omega
    .rw[VW _ _ _ _ M];exact hr i M
   .intro k _ I;exact xE (λe=>I<|by simp[cy,e])
   .intro k I;exact .inr I
  .have asQ:=dT m.n hle;have FJ:(h (Z xs*m.n) vs).length=Z xs*m.n:=by rw[fp,q];omega
   refine F (ad ⟨b,0,none⟩) C (h (Z xs*m.n) vs) J ?_ FJ (λi M=>by rw[VW _ _ _ _ M];exact hr i M) G;rw[Q];refine run_firstCells_some W.drew m.n (Z xs) ⟨b,0,none⟩ (Z xs) C _ FJ ?_;intro j u hj;let ⟨BX,qi⟩:=sB.1 hj;simp only[qm]at qi;simp only[k8,eF];have FK:W.drew.heap[b]? =ad (.cells vs.toArray L (0,0)):=hh;rw[tY FK j (by simp at BX;omega),qi]
def CP{a:Act}{d}{g:Builtin}{args}{c}(f:d.op= .call ⟨.builtin g,args,c⟩){W W'}{v}(i:∀k,(J6 g c d.type k<|args.map a.eval).run P W= .ok (.value v) W'):(execOp a.eval d).run P W= .ok (.value v) W':=by rw[execOp,f];simp only[resolve,pure_bind,invoke];exact i _
def sO:V Y->V (Key×aw Info)
 |[]=>[]
 |id::r=>(.m id,none)::sO r
def z4:V Y->V (Y×aN)->V (Y×aN)
 |[],l=>l
 |id::r,l=>z4 r<|rI id l
def Pp ids t:aE (sO ids) (.s t)=none:=by
 induction ids with
 |nil=>rfl
 |cons id r a=>simp[sO,aE,a]
def z5(a:Y):∀(c:V Y),aE (sO c) (.m a)=if a∈c then ad none else none
 |[]=>by simp[sO,aE]
 |id::r=>by
  simp only[sO,aE,Key.m.injEq,bY];by_cases d:id=a
  .simp[d]
  .rw[b d,z5 a r];by_cases h2:a∈r
   .simp[h2]
   .have:¬(a=id\/a∈r):=by rintro(e|e);exact d e.symm;exact h2 e
    rw[b h2,b this]
def V1(a:Y):∀(c:V Y)(l:V (Y×aN)),o a (z4 c l)=if a∈c then none else o a l
 |[],l=>by simp[z4]
 |id::r,l=>by
  simp only[z4];rw[V1 a r,zO];by_cases d:id=a
  .simp[d]
  .have:¬(a=id):=λe=>d e.symm
   simp[d,this]
def agX(a:St) d new ids x c:(⟨(d,x)::a.sl,(new,c)::z4 ids a.mem,a.nx,a.gd⟩:St).kn=bH a.kn ((.s d,ad<|.v x)::(.m new,ad<|.b c)::sO ids):=by
 funext k;cases k with
 |s t=>
  by_cases e:d=t
  .simp[St.kn,o,bH,aE,e]
  .simp[St.kn,o,bH,aE,e,Pp]
 |m j=>
  by_cases e:new=j
  .simp[St.kn,o,bH,aE,e]
  .simp only[St.kn,o,bH,aE,e,reduceCtorEq,Key.m.injEq,bN,V1,z5];split<;>simp
def V2(cp:cd P tt=af){ops}{i}{aI:bh}{d:Y}(ho:ops[i]? =ad aI)(hg:aI.guard=none)(hd:aI.dst=ad d){n}(di:d<n){x L}{t1 t2}(bV:aI.op= .call ⟨.builtin .append,#[x,L],#[t1,t2]⟩)
 {A}{ids}{bx E2:dI} {B}{xs ys:V B.den} (hx:(∃f,ids=[f]/\A.ev x=ad (.c<|.X f)/\o f A.mem=ad (.vec bx B xs))\/(ids=[]/\A.ev x=ad (.c<|.V<|.slice none 0 0)/\xs=[]))
  (hy:A.ev L=ad (.c<|.S B ys)) {ti V3 ei:TI} (mZ:o t1 tt=ad ti) (M:ti.kind= .sl bx) (agY:o t2 tt=ad V3) (FC:V3.kind= .sl E2) (mA:o bx tt=ad ei) (rG:ei.size=B.n) (J7:Z ei.zero=B.n)
  (hb:((Z xs+Z ys)+(Z xs+Z ys)/4+192)*ei.bytes<=281474976710656) (lJ:(Z xs+Z ys)*B.n<=140737488355328) (l:Y):
  kI P n ops i A ⟨(d,.c<|.X l)::A.sl,(l,.vec bx B<|xs++ys)::z4 ids A.mem,A.nx,A.gd⟩ l (bF [x,L]++cX ids,.s d:: .m l::cX ids):=by
 refine⟨cE A x++cE A L++fC A ids,(.s d,ad<|.v<|.c<|.X l)::(.m l,ad<|.b<|.vec bx B<|xs++ys)::sO ids,?_,?_,agX A d l ids _ _,?_,?_⟩
 .intro F kE Q known σ g W a K q aW w hK;have sQ:da g (.S B ys) (a.eval L):=dr aW A L _ hy<|λR b8=>w R dP;have hv:FF F.N g W bx B xs (a.eval x)/\(∀k,cy (a.eval x)=ad k->∃f b,ids=[f]/\σ (.m f)=ad (.b b)/\cy (g.γ f)=ad k):=by
   rcases hx with⟨f,rfl,hx,hl⟩|⟨rfl,hx,rfl⟩
   .have vJ:a.eval x=g.γ f:=dr aW A x _ hx<|λR b8=>w R dP;have D:σ (.m f)=ad (.b<|.vec bx B xs):=w (.m f,.b<|.vec bx B xs) qn;rw[vJ];exact⟨aW.c8 f _ D,λk M=>⟨f,_,J,D,M⟩⟩
   .have vJ:a.eval x= .slice none 0 0:=dr aW A x _ hx<|λR b8=>w R dP;rw[vJ];exact⟨.inl ⟨J,J⟩,by simp[cy]⟩
  let ⟨hv,Pq⟩:=hv;have h1:=(dW cp mZ).kind;rw[M]at h1;have h2:=(dW cp agY).kind;rw[FC]at h2;let ⟨inf,ua,o6,CQ,z,vK,vA⟩:=(dW cp mA).info;have sM:z.cells.size=inf.size:=by
   have:Z z.cells.toList=Z (ei.zero.map ZV.eE):=by rw[vA]
   simp only[FI,cR]at this;omega
  let ⟨v',W',iR,agZ,jU,ag0,e1,e2,e3,vM,ag1⟩:=agU (P:=P) (ty:=aI.type) aW.sub h1 h2 ua vK sM G hv sQ (by rw[CQ];exact hb) lJ<|.inl aW.below.size;unfold wpOp;simp only[ho,gH,hg,b9];refine .inl ?_;unfold m0;rw[CP bV (W':=W') (v:=v') (by have e:(#[x,L]:Array dQ).map a.eval= #[a.eval x,a.eval L]:=ay;intro cs;rw[e];simp only[J6,c9,iR,df];rfl)];simp only[m5,hd];have z6:d<a.tmps.size:=mj;let O:Gh:=⟨g.H,λf=>if f=l then v' else g.γ f⟩;have CR:fY known g O:=⟨cK.refl _,λf p=>by
   have:f≠l:=λe=>q<|e▸p
   simp[O,this]⟩
  have U:∀f∈ids,∃b,σ (.m f)=ad (.b b):=by
   intro f p;rcases hx with⟨xT,rfl,hx,hl⟩|⟨rfl,_⟩
   .simp only[gI]at p;subst p;exact⟨_,w (.m f,.b<|.vec bx B xs) qn⟩
   .cases p
  have vO:∀f∈ids,f≠l:=λf p e=>by let ⟨b,hb⟩:=U f p;exact q<|e▸aW.dO _ _ hb
  refine hK O _ _<|aW.step (chg:=λj=>j∈ids) (g':=O) ⟨CR,λ_ _ _=>rfl,vM,jU,?_,e1,e2,e3⟩ _ l q mm aW.defers ?_ ?_ ?_ ?_ ?_ ?_
  .intro k M I;refine ag0 k M<|λe=>?_;obtain⟨f,b,rfl,D,kM⟩:=Pq k e;exact I f ay kM
  .intro t ht;have I:d≠t:=qo;simp[gM,k7 I]
  .intro f p;refine⟨?_,U f p⟩;simp only[aE,reduceCtorEq,bN,Key.m.injEq,z5,p,b9];split<;>simp
  .intro t u ht;simp only[aE]at ht;split at ht
   .rename_i e;simp only[Key.s.injEq]at e;simp only[ar,Info.v.injEq]at ht;subst e;subst ht;simp[gM,z6,bG,da,O]
   .simp[Pp]at ht
  .intro f b ht;simp only[aE,reduceCtorEq,bN]at ht;split at ht
   .rename_i e;simp only[Key.m.injEq]at e;subst e;simp only[ar,Info.b.injEq]at ht;subst ht;have hr:FF F.N O W' bx B (xs++ys) (O.γ l):=by
     have e:O.γ l=v':=by simp[O]
     rw[e];exact agZ
    refine⟨hr,.inr ⟨J,λk M=>?_⟩⟩;simp only[O,b9]at M;rcases ag1 k M with h|h
    .exact .inl h
    .let ⟨f,b,z7,D,kM⟩:=Pq k h;refine .inr ⟨f,b,D,?_,kM⟩;have I:=vO f (by simp[z7]);simp only[aE,reduceCtorEq,bN,Key.m.injEq,Ne.symm I,z5];simp[z7]
   .rw[z5]at ht;split at ht<;>simp at ht
  .intro k L ht;simp only[aE]at ht;split at ht
   .simp only[ar]at ht;subst ht;intro f p;simp[Info.ak,AV.ak,C.ak]at p;exact .inr p
   .split at ht
    .simp only[ar]at ht;subst ht;intro f p;simp[Info.ak,aN.ak]at p
    .cases k with
     |s t=>simp[Pp]at ht
     |m j=>rw[z5]at ht;split at ht<;>simp at ht
  .intro f L ht;simp only[aE,reduceCtorEq,bN]at ht;split at ht
   .rename_i e;simp only[Key.m.injEq]at e;exact .inr e.symm
   .rw[z5]at ht;split at ht<;>simp at ht
 .intro R b8;rcases bg.1 b8 with h|h
  .rcases bg.1 h with h|h
   .exact eG _ x R h
   .exact eG _ L R h
  .exact k9 _ ids R h
 .intro k M;simp only[dx,fe,bg]at M;rcases M with(h|h)|h
  .exact eh _<|eo A [x,L] k uc
  .exact eh _<|eo A [x,L] k vB
  .exact fZ _<|jY A ids k h
 .have hd:∀ids:V Y,fJ (sO ids)=cX ids:=by
   intro ids;induction ids with
   |nil=>rfl
   |cons f r ih=>simp only[sO,fJ,hJ,cX]at ih⊢;rw[ih]
  intro k M;have:fJ ((.s d,ad<|.v<|.c<|.X l)::(.m l,ad<|.b<|.vec bx B<|xs++ys)::sO ids)= .s d:: .m l::cX ids:=by rw[<-hd ids];rfl
  rw[<-this];exact M
def ag2{k}{a}{l i}{d}{x H}{t1 t2 ty:dI}{pos}{L}{os}{u}{mem}{v}{A}{ks}{Q:St->Prop}(M:cd P tt=af)
 {f}{B E2:dI} {g}{xs p}(hx:St.ev ⟨u,mem,v,A⟩ x=ad (.c<|.X f)) (hl:o f mem=ad (.vec B g xs))
  (hy:St.ev ⟨u,mem,v,A⟩ H=ad (.c<|.S g p)) {ti r F}(W:o t1 tt=ad ti) (hk:ti.kind= .sl B) (t:o t2 tt=ad r) (FC:r.kind= .sl E2) (mA:o B tt=ad F) (rG:F.size=g.n) (J7:Z F.zero=g.n)
  (hb:((Z xs+Z p)+(Z xs+Z p)/4+192)*F.bytes<=281474976710656) (lJ:(Z xs+Z p)*g.n<=140737488355328)
  (cF:RG P n k a l (i+1) os ⟨(d,.c<|.X<|1000000*l+1000*i)::u,(1000000*l+1000*i,.vec B g<|xs++p)::rI f mem,v,A⟩ (gJ a ks (bF [x,H]++cX [f],[.s d,.m<|1000000*l+1000*i,.m f])) Q) (di:Nat.blt d n=af:=by rfl):
  RG P n k a l i (⟨ad d,.call ⟨.builtin .append,#[x,H],#[t1,t2]⟩,ty,pos,L,none⟩::os) ⟨u,mem,v,A⟩ ks Q:=
 mu (λC=>V2 M C J J (dc di) J (.inl ⟨f,J,hx,hl⟩) hy W hk t FC mA rG J7 hb lJ _) (mz cF)
def ag3{f}{a}{g i}{d}{x B}{t1 t2 ty:dI}{pos}{F}{os}{t}{mem}{u}{v}{ks}{Q:St->Prop}(H:cd P tt=af)
  {L E2:dI} {k}{l}(hx:St.ev ⟨t,mem,u,v⟩ x=ad (.c<|.V<|.slice none 0 0))
  (hy:St.ev ⟨t,mem,u,v⟩ B=ad (.c<|.S k l)) {ti p A}(M:o t1 tt=ad ti) (hk:ti.kind= .sl L) (r:o t2 tt=ad p) (W:p.kind= .sl E2) (mA:o L tt=ad A) (rG:A.size=k.n) (J7:Z A.zero=k.n)
  (hb:(Z l+Z l/4+192)*A.bytes<=281474976710656) (lJ:Z l*k.n<=140737488355328)
  (cF:RG P n f a g (i+1) os ⟨(d,.c<|.X<|1000000*g+1000*i)::t,(1000000*g+1000*i,.vec L k l)::mem,u,v⟩ (gJ a ks (bF [x,B],[.s d,.m<|1000000*g+1000*i])) Q) (di:Nat.blt d n=af:=by rfl):
  RG P n f a g i (⟨ad d,.call ⟨.builtin .append,#[x,B],#[t1,t2]⟩,ty,pos,F,none⟩::os) ⟨t,mem,u,v⟩ ks Q:=
 mu (λC=>V2 (xs:=[]) (ids:=[]) H C J J (dc di) J (.inr ⟨J,hx,J⟩) hy M hk r W mA rG J7 vD (by simpa using lJ) _) (mz<|by simpa[cX,z4]using cF)
end
def J8(a:TT)(t:Y):aw Y:=match o t a with
 |some c=>(match c.kind with
  | .sl e=>(match o e a with|some d=>ad d.size|none=>none)
  |_=>none)
 |none=>none
def J9(a:TT)(t:Y)(x i:AV):aw (AV×Pr):=match x,i with
 | .c (.L id off len _),.c (.I _ k)=>(match J8 a t with
  |some sz=>ad (.c<|.P id<|off+Int.toNat k*sz,.and (.le 0 k)<|.lt k len)
  |none=>none)
 |_,_=>none
def vR(m:Y):aw AV->Y->aw (Y×Pr)
 |none,d=>ad (d,.t)
 |some (.c<|.I _ k),_=>ad (Int.toNat k,.and (.le 0 k)<|.le k m)
 |_,_=>none
def Ps(f:TT)(t:Y)(x:AV)(d a mx:aw AV):aw (AV×Pr):=match x,J8 f t with
 | .c (.L id off len<|ad c),ad sz=>(match vR c mx c with
  |some (m,p1)=>(match(if mx.isSome&& !a.isSome then none else vR m a len)with
   |some (h,g)=>(match vR h d 0 with
    |some (l,i)=>ad (.c<|.L id (if m=l then off else off+l*sz) (h-l)<|ad<|m-l,.an p1<|.an g i)
    |none=>none)
   |none=>none)
  |none=>none)
 | .c (.L id off len none),ad _=>(match d,mx with
  |none,none=>(match vR len a len with
   |some (h,p)=>ad (.c<|.L id off h none,p)
   |none=>none)
  |_,_=>none)
 | .c (.V<|.slice none 0 0),ad _=>(match mx,vR 0 a 0 with
  |none,ad (h,p)=>(match vR h d 0 with
   |some (_,q)=>ad (.c<|.V<|.slice none 0 0,.an p q)
   |none=>none)
  |_,_=>none)
 |_,_=>none
def J'(a:TT)(t:Y)(x:AV):aw AV:=match o t a with
 |some d=>(match d.kind with
  | .sl _=>(match x with
   | .c (.L _ _ len _)=>ad<|.c<|.I .i64 len
   |_=>none)
  |_=>none)
 |none=>none
def V4(c x a:aw AV):aw (AV×Pr):=match c,x,a with
 |some (.c<|.B af),ad v,_=>ad (v,.t)
 |some (.c<|.B false),_,ad v=>ad (v,.t)
 |_,_,_=>none
def CS(d:TT)(a:St):Op->aw (AV×Pr)
 | .pick c x g=>V4 (a.ev c) (a.ev x)<|a.ev g
 | .indexAddr t x i=>(match a.ev x,a.ev i with|some v,ad k=>J9 d t v k|_,_=>none)
 | .slice t x n p mx=>(match a.ev x,xB a n,xB a p,xB a mx with|some v,ad l,ad r,ad m=>Ps d t v l r m|_,_,_,_=>none)
 | .call ⟨.builtin .len,args,f⟩=>(match args.toList,f.toList with
  |[x],[t]=>(match a.ev x with|some v=>(match J' d t v with|some u=>ad (u,.t)|none=>none)|none=>none)
  |_,_=>none)
 |_=>none
section
variable{P:bZ}{tt:TT}{g:Gh}{W:cD}
def Ka(c:cd P tt=af){t n}(a:J8 tt t=ad n):∃d i,P.underlying t=ad (.slice d)/\P.info? d=ad i/\i.size=n:=by
 refine B7 c ?_;unfold J8 at a;unfold vp;split at a
 .rename_i r f;split at a
  .rename_i d k;split at a
   .rename_i l m;have p:l.size=n:=V5 a;simp[f,k,m,p]
   .simp at a
  .simp at a
 .simp at a
def ag4(m:cd P tt=af){t}{x i n}{p}(a:J9 tt t x i=ad (n,p))(S:p){v u}(M:bG g x v)(hu:bG g i u):(∃Q,(Instr.indexAt t v u).run P W= .ok Q W/\bG g n Q)/\∀r∈n.ak,r∈x.ak:=by
 unfold J9 at a;split at a
 .rename_i r f l A X k;split at a
  .rename_i sz B;simp only[ar,bK]at a;obtain⟨rfl,rfl⟩:=a;let ⟨e,i,F,j,o⟩:=Ka m B;have H:u= .int X k:=hu;subst H;have d:0<=k/\k<(l:Int):=S;have K:∃b c,cy (g.γ r)=ad b/\v= .slice (ad ⟨b,f,none⟩) l c:=by
    cases A with
    |some c=>let ⟨b,L,h2⟩:=M;exact⟨b,c,L,h2⟩
    |none=>let ⟨q,b,c,L,h2,_⟩:=M;subst q;exact⟨b,c,by rw[L];rfl,h2⟩
   obtain⟨b,c,s,rfl⟩:=K;refine⟨⟨.pointer<|ad ⟨b,f+Int.toNat k*sz,none⟩,?_,b,s,J⟩,qj⟩;simp only[Instr.indexAt,asIntOf,c9,run_underlying F,df];simp[d,run_sizeOf j,o,k8]
  .simp at a
 .simp at a
def vU{m}{x}{d c}{p}(a:vR m x d=ad (c,p))(n:p){v}(f:xC g x v)(code:BoundsCode):
  (x=none/\v=none/\c=d)\/(∃u,x.isSome=af/\v=ad u/\c<=m/\(OU u m code).run P W= .ok c W):=by
 unfold vR at a
 split at a
 .simp only[ar,bK]at a;cases v with
  |none=>exact .inl ⟨J,J,a.1.symm⟩
  |some u=>exact f.elim
 .rename_i r k;simp only[ar,bK]at a;obtain⟨rfl,rfl⟩:=a;cases v with
  |none=>exact f.elim
  |some u=>
   have i:u= .int r k:=f
   subst i
   have l:0<=k/\k<=(m:Int):=n
   refine .inr ⟨_,J,J,G,?_⟩
   simp[OU,asIntOf,l,jH,pure]
 .simp at a
def ag5(cp:cd P tt=af){t}{x cC}{lo hi mx}{p}(a:Ps tt t x lo hi mx=ad (cC,p))(hp:p){v}{vl vh vm}(hv:bG g x v)
  (hl:xC g lo vl) (hh:xC g hi vh) (hm:xC g mx vm):
  (∃fK,(Pt t v vl vh vm).run P W= .ok fK W/\bG g cC fK)/\∀id∈cC.ak,id∈x.ak:=by
 unfold Ps at a
 split at a
 .rename_i id s k c sz A;let ⟨e,i,B,F,R⟩:=Ka cp A;split at a
  .rename_i m p1 H;split at a
   .rename_i f p2 r;split at a
    .rename_i l p3 w;simp only[ar,bK]at a;obtain⟨rfl,rfl⟩:=a;let ⟨D,T⟩:=Pr.E0 hp;let ⟨K,E⟩:=Pr.E0 T;obtain⟨O,EX,rfl⟩:=hv;have L:¬(mx.isSome=af/\hi.isSome=false):=by intro U;rw[aq (by simp[U.1,U.2])]at r;cases r
     have X:vR m hi k=ad (f,p2):=by rw[b (by intro U;simp only[cr,Fu]at U;exact L U)]at r;exact r
     refine⟨⟨.slice (if m=l then ad ⟨O,s,none⟩else ad ⟨O,s+l*sz,none⟩) (f-l)<|m-l,?_,O,EX,?_⟩,qj⟩
     .have M:(vq af k c vl vh vm).run P W= .ok (l,f,m) W:=by
       unfold vq;rcases vU (P:=P) (W:=W) H D hm .slice3Acap with⟨V,rfl,rfl⟩|⟨u1,V,rfl,_,Y⟩
       .rcases vU (P:=P) (W:=W) X K hh .sliceAcap with⟨S,rfl,rfl⟩|⟨u2,S,rfl,_,I⟩
        .rcases vU (P:=P) (W:=W) w E hl .sliceB with⟨Q,rfl,rfl⟩|⟨u3,Q,rfl,_,Z⟩<;>simp[*]
        .rcases vU (P:=P) (W:=W) w E hl .sliceB with⟨Q,rfl,rfl⟩|⟨u3,Q,rfl,_,Z⟩<;>simp[*]
       .rcases vU (P:=P) (W:=W) X K hh .slice3B with⟨S,rfl,rfl⟩|⟨u2,S,rfl,_,I⟩
        .exact absurd ⟨V,by simp[S]⟩ L
        .rcases vU (P:=P) (W:=W) w E hl .slice3C with⟨Q,rfl,rfl⟩|⟨u3,Q,rfl,_,Z⟩<;>simp[*]
      simp only[Pt,c9,run_underlying B,df,V6,M,run_sizeOf F,R];split<;>simp[pure,k8]
     .split<;>rfl
    .simp at a
   .simp at a
  .simp at a
 .rename_i id s k sz A;let ⟨e,i,B,F,R⟩:=Ka cp A;split at a
  .split at a
   .rename_i f p1 H;simp only[ar,bK]at a;obtain⟨rfl,rfl⟩:=a;obtain⟨h0,O,c,hγ,rfl,hle⟩:=hv;subst h0;have qy:vl=none:=by cases vl with|none=>rfl|some _=>exact hl.elim
    have N:vm=none:=by cases vm with|none=>rfl|some _=>exact hm.elim
    subst qy N;have j:=OT (P:=P) (W:=W) (n:=k) (x:=hi) (d:=k) (h:=f) (p:=p1) (by rw[<-H];cases hi with|none=>rfl|some q=>cases q with|c q=>cases q<;>rfl|_=>rfl) hp hh c hle .sliceAcap;have o:f<=k:=by rcases j with⟨_,_,e⟩|⟨_,_,a,_⟩<;>omega
    refine⟨⟨.slice (ad ⟨O,0,none⟩) f c,?_,J,O,c,hγ,J,G⟩,qj⟩;have M:(vq af k c none vh none).run P W= .ok (0,f,c) W:=by unfold vq;rcases j with⟨_,rfl,rfl⟩|⟨u,rfl,_,Y⟩<;>simp[*]
    simp only[Pt,c9,run_underlying B,df,V6,M,run_sizeOf F,R];simp[pure,k8]
   .simp at a
  .simp at a
 .rename_i sz A;let ⟨e,i,B,F,R⟩:=Ka cp A;split at a
  .rename_i f p1 H;split at a
   .rename_i l p2 r;simp only[ar,bK]at a;obtain⟨rfl,rfl⟩:=a;let ⟨D,K⟩:=Pr.E0 hp;have sr:v= .slice none 0 0:=hv;subst sr;have N:vm=none:=by cases vm with|none=>rfl|some _=>exact hm.elim
    subst N;refine⟨⟨.slice none 0 0,?_,J⟩,qj⟩;have M:(vq af 0 0 vl vh none).run P W= .ok (0,0,0) W:=by
     unfold vq;rcases vU (P:=P) (W:=W) H D hh .sliceAcap with⟨_,rfl,rfl⟩|⟨u1,_,rfl,Pu,Y⟩
     .rcases vU (P:=P) (W:=W) r K hl .sliceB with⟨_,rfl,rfl⟩|⟨u2,_,rfl,o,I⟩
      .simp[*]
      .have:l=0:=by omega
       subst this;simp[*]
     .have:f=0:=by omega
      subst this;rcases vU (P:=P) (W:=W) r K hl .sliceB with⟨_,rfl,rfl⟩|⟨u2,_,rfl,o,I⟩
      .simp[*]
      .have:l=0:=by omega
       subst this;simp[*]
    simp only[Pt,c9,run_underlying B,df,V6,M,run_sizeOf F,R];simp[pure]
   .simp at a
  .simp at a
 .simp at a
def ag6(f:cd P tt=af){t r:Y}{x i:AV}(d:J' tt t x=ad i){v:a4}(u:bG g x v):(Builtin.len_ #[t] r #[v]).run P W= .ok (match i with| .c (.I k n)=> .int k n|_=>undef) W/\(∃n:Int,i= .c (.I .i64 n)):=by
 unfold J' at d;split at d
 .rename_i H A;split at d
  .rename_i e B;split at d
   .rename_i K C l m _;simp only[ar]at d;subst d;have h2:=(dW f A).kind;rw[B]at h2;have p:∃a c,v= .slice a l c:=by
     cases m with
     |some c=>let ⟨b,F,h2⟩:=u;exact⟨_,c,h2⟩
     |none=>let ⟨L,b,c,F,h2,_⟩:=u;exact⟨_,c,h2⟩
    obtain⟨a,c,rfl⟩:=p;exact⟨Js,_,J⟩
   .simp at d
  .simp at d
 .simp at d
def V7(cp:cd P tt=af){ops}{i}{Q:bh}{d:Y}(ho:ops[i]? =ad Q)(hg:Q.guard=none)(hd:Q.dst=ad d){n}(di:d<n)
 {S}{x}{p}(f:CS tt S Q.op=ad (x,p)) (hp:p) new:gX P n ops i (nF S Q.op) [(.s d,ad<|.v x)] new:=by
 refine rF ho hg hd di _ x new ?_
 intro F b σ g W a A T
 have H:∀y∈Q.op.operands,∀O∈cE S y,σ O.1=ad O.2:=by intro y X O U;exact T O<|iP.2 ⟨y,by simpa using X,U⟩
 have k:∀y∈Q.op.operands,∀u,S.ev y=ad u->bG g u (a.eval y)/\∀j∈u.ak,b j:=by intro y X u R;exact⟨dr A S y u R<|H y X,rE A S y u R<|H y X⟩
 generalize L:Q.op=op at f k H
 unfold CS at f
 split at f
 .rename_i c y z;unfold V4 at f;split at f
  .rename_i v V X;simp only[ar,bK]at f;obtain⟨rfl,rfl⟩:=f;have Z:a.eval c= .bool af:=(k c gf _ V).1;have K:=k y gf _ X;exact⟨K.2,_,by simp[execOp,L,Z,asBool,jH,pure],K.1⟩
  .rename_i v V X;simp only[ar,bK]at f;obtain⟨rfl,rfl⟩:=f;have Z:a.eval c= .bool false:=(k c gf _ V).1;have K:=k z gf _ X;exact⟨K.2,_,by simp[execOp,L,Z,asBool,jH,pure],K.1⟩
  .simp at f
 .rename_i t y z;split at f
  .rename_i v w G hw;have K:=k y gf _ G;have h2:=k z gf _ hw;let ⟨⟨u,B,M⟩,I⟩:=ag4 (P:=P) (W:=W) cp f hp K.1 h2.1;exact⟨λj D=>K.2 j<|I j D,u,by simp[execOp,L,B,jH,pure],M⟩
  .simp at f
 .rename_i t y lo hi mx;split at f
  .rename_i v l h m G hl hh I;have K:=k y gf _ G;have h2:=E8 A S lo l hl<|λq hq=>H q E9;have h3:=E8 A S hi h hh<|λq hq=>H q E9;have h4:=E8 A S mx m I<|λq hq=>H q E9;let ⟨⟨u,B,M⟩,I⟩:=ag5 (P:=P) (W:=W) cp f hp K.1 h2 h3 h4;exact⟨λj D=>K.2 j<|I j D,u,by simp[execOp,L,B,jH,pure],M⟩
  .simp at f
 .rename_i args jZ;split at f
  .rename_i y t ha ht;have E:args= #[y]:=Fa;have N:jZ= #[t]:=OV;subst E N;split at f
   .rename_i v G;split at f
    .rename_i u R;simp only[ar,bK]at f;obtain⟨rfl,rfl⟩:=f;have K:=k y Ca _ G;obtain⟨B,n',rfl⟩:=ag6 (P:=P) (W:=W) (r:=Q.type) cp R K.1;exact⟨qj,.int .i64 n',CP L (λcs=>by have e:(#[y]:Array dQ).map a.eval= #[a.eval y]:=ay;rw[e];simp only[J6,c9,B,df];rfl),J⟩
    .simp at f
   .simp at f
  .simp at f
 .simp at f
end
section
variable{P:bZ}{tt:TT}
def Pv{ops}{i}{S:bh}{d:Y}(ho:ops[i]? =ad S)(hg:S.guard=none)(hd:S.dst=ad d){n}(di:d<n){bx}rd cs sz len x(p:Y)
  (cF:∀(F:eP)(f:Y->Prop)(σ:Kn)(g:Gh)(W:cD)(a:Act),bw F f σ g W a->(∀kx∈rd,σ kx.1=ad kx.2)->
   (∀A∈b7 cs,f A)/\∃(vs rest:V a4)(l:Y)(W1:cD),bc g cs vs/\(execOp a.eval S).run P W= .ok (.value<|.slice (ad ⟨W.heap.size,0,none⟩) len l) {W1 with heap:=W.heap.push<|.cells (vs++rest).toArray bx (0,0)}/\
    W1.os=W.os/\W1.tape=W.tape/\W1.output=W.output/\(∀c,x=ad c->l=c)/\(sz≠0->Z (vs++rest)=l*sz)/\len<=l):
  gX P n ops i rd [(.s d,ad<|.v<|.c<|.L p 0 len x),(.m p,ad<|.b<|.box bx sz cs)] p:=by
 intro F kE Q f σ g W a K X aW O U
 let ⟨hm,vs,rest,l,W1,hr,q,e1,e2,e3,w,z,hlen⟩:=cF F f σ g W a aW O
 unfold wpOp
 simp only[ho,gH,hg,b9]
 refine .inl ?_
 unfold m0
 rw[q]
 simp only[m5,hd]
 have R:d<a.tmps.size:=mj
 let j:Gh:=⟨g.H,λA=>if A=p then .slice (ad ⟨W.heap.size,0,none⟩) 0 l else g.γ A⟩
 have B:j.γ p= .slice (ad ⟨W.heap.size,0,none⟩) 0 l:=by simp[j]
 have D:fY f g j:=⟨cK.refl _,λA r=>by
  have:A≠p:=λe=>X<|e▸r
  simp[j,this]⟩
 have M:∀S,g.H W.heap.size S=none:=by
  intro S;cases hv:g.H W.heap.size S with
  |none=>rfl
  |some v=>
   have:=Ch W _<|aW.sub _ _ _ hv
   simp at this
 have G:Sub g.H {W1 with heap:=W.heap.push<|.cells (vs++rest).toArray bx (0,0)}:=by have:=zK aW.sub<|.cells (vs++rest).toArray bx (0,0);exact this
 refine U j _ _<|aW.step (chg:=λ_=>False) (g':=j) ⟨D,λ_ _ _=>rfl,G,ay,λk N _=>Cf W _ k N,e1,e2,e3⟩ _ p X mm aW.defers ?_ (λ_ cF=>cF.elim) ?_ ?_ ?_ ?_
 .intro t ht;have T:d≠t:=qo;simp[gM,k7 T]
 .intro t u ht;simp only[aE]at ht;split at ht
  .rename_i e;simp only[Key.s.injEq]at e;simp only[ar,Info.v.injEq]at ht;subst e;subst ht;have I:(a.put (ad d)<|.slice (ad ⟨W.heap.size,0,none⟩) len l).tmps.getD d undef= .slice (ad ⟨W.heap.size,0,none⟩) len l:=by simp[gM,R]
   show da j _ _;rw[I];cases x with
   |some c=>have:=w c J;subst this;exact⟨W.heap.size,by rw[B];rfl,J⟩
   |none=>exact⟨J,W.heap.size,l,B,J,hlen⟩
  .split at ht
   .simp at ht
   .simp at ht
 .intro A b ht;simp only[aE,reduceCtorEq,bN]at ht;split at ht
  .rename_i e;simp only[Key.m.injEq]at e;subst e;simp only[ar,Info.b.injEq]at ht;subst ht;refine⟨⟨W.heap.size,vs,rest,by rw[B];rfl,ay,bc.mono D hm hr,.inl aW.below.size,M,λh0=>⟨l,B,z h0⟩⟩,.inr ⟨J,λk N=> .inl ?_⟩⟩;rw[B]at N;simp only[cy,ar]at N;omega
  .simp at ht
 .intro k y ht;simp only[aE]at ht;split at ht
  .simp only[ar]at ht;subst ht;intro A r;simp[Info.ak,AV.ak,C.ak]at r;exact .inr r
  .split at ht
   .simp only[ar]at ht;subst ht;exact λA r=> .inl<|hm A r
   .simp at ht
 .intro A y ht;simp only[aE,reduceCtorEq,bN]at ht;split at ht
  .rename_i e;simp only[Key.m.injEq]at e;exact .inr e.symm
  .simp at ht
def ag7(cp:cd P tt=af){B}{i}{H:bh}{d:Y}(ho:B[i]? =ad H)(hg:H.guard=none)(hd:H.dst=ad d){n}(di:d<n){t}{x cC}(bV:H.op= .makeSlice t x cC)
 {st}{m:Y} {k k2}(hx:st.ev x=ad (.c<|.I k (m:Int))) (hy:st.ev cC=ad (.c<|.I k2 (m:Int))) {bx}{ti f:TI} (mZ:o t tt=ad ti) (hk:ti.kind= .sl bx) (mA:o bx tt=ad f) (FE:0<f.size) (hb:m*f.bytes<=16777216) (lJ:m<=16777216) (p:Y):
  gX P n B i (nF st H.op) [(.s d,ad<|.v<|.c<|.L p 0 m<|ad m),(.m p,ad<|.b<|.box bx 0<|CJ (f.zero.map ZV.oX) m)] p:=by
 refine Pv ho hg hd di _ _ _ _ _ p ?_
 intro F h T g W a u C
 have O:a.eval x= .int k (m:Int):=dr u st x _ hx<|λj b8=>C j Pf
 have q:a.eval cC= .int k2 (m:Int):=dr u st cC _ hy<|λj b8=>C j Pf
 have N:=(dW cp mZ).kind
 rw[hk]at N
 let ⟨inf,K,M,Q,z,w,vA⟩:=(dW cp mA).info
 have A:Z (f.zero.map ZV.eE)=f.size:=Pn
 have S:z.cells=(f.zero.map ZV.eE).toArray:=Cm
 have X:(f.zero.map ZV.eE)≠[]:=by intro e;rw[e]at A;simp at A;omega
 have D:(inf.bytes:Int)*(m:Int)<=281474976710656:=by
  rw[Q];have:(f.bytes:Int)*(m:Int)=((m*f.bytes:Y):Int):=by rw[gN];simp
  rw[this];omega
 have l:=run_make (P:=P) W t bx inf z N K w k k2 m m G G D G
 refine⟨Pm,(bp m<|f.zero.map ZV.eE).flatten,[],m,W,J1 (xI g f.zero) m,?_,J,J,J,λc R=>V5 R,ay,a7 _⟩
 rw[execOp,bV]
 have r:madeCells z.cells (m*inf.size)=((bp m<|f.zero.map ZV.eE).flatten).toArray:=by rw[M,S,<-A,<-JT _ m X];rfl
 simp only[bW]at l
 rw[r]at l
 simp only[O,q,c9,l,df,gO]
 rfl
def ag8(cp:cd P tt=af){F}{l:Y->Prop}{σ}{g}{W}{a}(H:bw F l σ g W a){st}{aI}{t c}{d}(bV:aI.op= .buildSlice t c d){bx}{ei}{A}(FE:0<ei.size)(xQ:c*ei.size<=16777216)
  (m:sK tt st t c d.toList=ad (bx,ei,A)) (fA:∀kx∈nF st aI.op,σ kx.1=ad kx.2):
  ∃u:V a4,(execOp a.eval aI).run P W= .ok (.value<|.slice (ad ⟨W.heap.size,0,none⟩) c c) {W with heap:=W.heap.push<|.cells u.toArray bx (0,0)}/\bc g A u/\Z u=c*ei.size/\∀id∈b7 A,l id:=by
 unfold sK at m
 split at m
 .rename_i ti j;split at m
  .rename_i O T;split at m
   .rename_i k mA;split at m
    .rename_i cs q;simp only[ar,bK]at m;obtain⟨rfl,rfl,rfl⟩:=m;have R:=(dW cp j).kind;rw[T]at R;let ⟨inf,ua,K,_,z,hz,vA⟩:=(dW cp mA).info;have L:z.cells=(k.zero.map ZV.eE).toArray:=Cm;let ⟨u,M,ij,s,w⟩:=Fo H st (uh k.size 0 c) (λi=>ad (i*k.size,k.size)) (λi x h=>by rw[J0 _ _ _ _ _ h];simp) d.toList _ _ _ q (J1 (xI g k.zero) c) (λp U kx y=>fA kx<|by rw[bV];refine iP.2 ⟨p.2,?_,y⟩;simp only[Op.operands,jW];exact⟨p,U,J⟩) Pm;have n:Z (k.zero.map ZV.eE)=k.size:=Pn;have Q:Z u=c*k.size:=by rw[s,VK,n]
     refine⟨u,?_,ij,Q,w⟩;have B:execOp a.eval aI=(do pure (.value<|<-FD t c (d.map λ(i,x)=>(i,a.eval x)))):=tZ;have S:(d.map λ(i,x)=>(i,a.eval x)).toList=d.toList.map λp=>(p.1,a.eval p.2):=ay
     have D:(zeroValue O).run P W= .ok z W:=O6;have r:((Array.range<|c*k.size).map<|λi=>(k.zero.map ZV.eE).toArray[i%(k.zero.map ZV.eE).toArray.size]!)=((bp c<|k.zero.map ZV.eE).flatten).toArray:=by have:=JT (k.zero.map ZV.eE) c (by intro e;rw[e]at n;simp at n;omega);rw[n]at this;exact this
     have hb:(FD t c<|d.map λ(i,x)=>(i,a.eval x)).run P W= .ok (.slice (ad ⟨W.heap.size,0,none⟩) c c) {W with heap:=W.heap.push<|.cells u.toArray O (0,0)}:=by
      unfold FD;rw[c9,run_underlying R];simp only[df];rw[c9,run_sizeOf ua];simp only[df,K];rw[b G];by_cases X:c*k.size=0
      .have C:c=0:=by
        rcases Nat.mul_eq_zero.1 X with h|h
        .exact h
        .omega
       subst C;have I:u=[]:=fB (by rw[Q];simp);subst I;have v:=M;simp only[CK,List.flatten_nil]at v;have N:∀f:Y->a4,(Array.range 0).map f= #[]:=λf=>by simp
       simp only[rM,b9,pure_bind,N,S,v];rfl
      .rw[b X];simp only[pure_bind,c9,D,df,L,r,S,M];rfl
     rw[B,c9,hb];rfl
    .simp at m
   .simp at m
  .simp at m
 .simp at m
def ag9(H:cd P tt=af){r}{i}{u:bh}{d:Y}(ho:r[i]? =ad u)(hg:u.guard=none)(hd:u.dst=ad d){n}(M:d<n){t f:Y}{k}(Q:u.op= .buildSlice t f k)
 {st}{bx}{S}{cs}(x:0<S.size) (l:f*S.size<=16777216) (hv:sK tt st t f k.toList=ad (bx,S,cs)) (p:Y):
  gX P n r i (nF st u.op) [(.s d,ad<|.v<|.c<|.L p 0 f<|ad f),(.m p,ad<|.b<|.box bx 0 cs)] p:=by
 refine Pv ho hg hd M _ _ _ _ _ p ?_
 intro F C h g W a A K
 let ⟨us,B,X,hl,hm⟩:=ag8 H A Q x l hv K
 exact⟨hm,us,[],f,W,X,by simpa using B,J,J,J,λc e=>V5 e,ay,a7 _⟩
end
def sS(f:St)(sz:Y):AV->aw (Y×V C×V Y)
 | .c (.L id off len _)=>(match o id f.mem with
  |some (.box _ _ cs)=>if off+len*sz<=Z cs then ad (len,(az off cs).take<|len*sz,[id])else none
  |some (.fz _ cs)=>if off+len*sz<=Z cs then ad (len,(az off cs).take<|len*sz,[id])else none
  |_=>none)
 | .c (.S a d)=>if a.n=sz then ad (Z d,d.flatMap<|av a,[])else none
 | .c (.V<|.slice none 0 0)=>ad (0,[],[])
 |_=>none
section
variable{P:bZ}{tt:TT}
def Pw{u}(a:nG u=af):u.oneCell'=af:=by revert a;cases u<;>simp[nG,Value.oneCell']
def V9{d:ET}:∀(f:V d.den),∀c∈f.flatMap (av d),jI c=af
 |[],c,a=>by simp at a
 |g::f,c,a=>by
  simp only[kH,bg]at a;rcases a with a|a
  .exact Ci d g c a
  .exact V9 f c a
def V'{f:ET}:∀(d:V f.den),b7 (d.flatMap<|av f)=[]
 |[]=>rfl
 |i::d=>by
  refine Pk.2 λg a=>?_
  rw[kH]at a;rcases Cd _ _ g a with c|c
  .rw[Fg]at c;cases c
  .rw[V' d]at c;cases c
def Wa{g:Gh}(a:ET):∀(xs:V a.den)(vs:V a4),Z vs=Z xs*a.n->(∀i(c:i<Z xs),cV g.H a xs[i] ((az (i*a.n) vs).take a.n))->bc g (xs.flatMap<|av a) vs
 |[],vs,hl,_=>by have:vs=[]:=fB tX;subst this;rfl
 |x::xs,vs,hl,c=>by rw[kH];have d:=c 0 ay;simp only[rM,o5,vr]at d;have:=bc.append (zn (g:=g) a x _ d) (Wa a xs (az a.n vs) (by simp at hl⊢;rw[hl,fD];omega)<|λi f=>by have:=c (i+1) (by simpa using f);simp only[Cb]at this;rw[qu];rw[(E7:a.n+i*a.n=(i+1)*a.n)];exact this);rwa[ry]at this
def z8{F}{x:Y->Prop}{σ}{g}{W}{a}(i:bw F x σ g W a){st}{y}{sz m}{cs}{ids}(k:sS st sz y=ad (m,cs,ids)){v}(S:bG g y v)
  (fA:∀M∈ids,∀Q,o M st.mem=ad Q->σ (.m M)=ad (.b Q)) {t cz}(hu:P.underlying t=ad (.slice cz)) (o7:cs.all jI=af):
  ∃L:V a4,Src P sz t v m L W/\bc g cs L/\(∀M∈b7 cs,x M)/\∀u∈L,nG u=af:=by
 have p:∀L,bc g cs L->∀u∈L,nG u=af:=λL X=>X.one<|λc hc=>mq.1 o7 c hc
 unfold sS at k
 split at k
 .rename_i M d f q;split at k
  .rename_i E bz s O;split at k
   .rename_i I;simp only[ar,bK]at k;obtain⟨rfl,rfl,rfl⟩:=k;have A:=fA M ay _ O;let ⟨Q,vs,rest,l,hh,X,hN,hz,vV⟩:=i.c8 M _ A;have B:∃c,v= .slice (ad ⟨Q,d,none⟩) f c:=by
     cases q with
     |some c=>
      let ⟨R,r,h2⟩:=S
      rw[l]at r
      cases r
      exact⟨c,h2⟩
     |none=>
      let ⟨U,R,c,r,h2,_⟩:=S
      rw[r]at l
      simp only[cy,ar]at l
      subst l U
      exact⟨c,h2⟩
    obtain⟨c,rfl⟩:=B;have n:bc g ((az d s).take<|f*sz) ((az d vs).take<|f*sz):=(X.drop d).take _;have qy:=X.length;have C:Z ((az d vs).take<|f*sz)=f*sz:=bX;refine⟨_,Src.ofSlice W hu ⟨Q,d,none⟩ f c _ C ?_<|λu w=>Pw<|p _ n u w,n,?_,p _ n⟩
    .intro j u hj;let ⟨z,H⟩:=sB.1 hj;simp only[qm,sC]at H;have D:d+j<Z vs:=by rw[C]at z;omega
     simp only[k8];rw[tY hh (d+j) bX,vu D,H]
    .intro G K;exact i.ak _ _ A G<|E4 _ _ _<|B5 _ _ _ K
   .simp at k
  .rename_i E s O;split at k
   .rename_i I;simp only[ar,bK]at k;obtain⟨rfl,rfl,rfl⟩:=k;have A:=fA M ay _ O;let ⟨Q,vs,rest,l,hh,X,hN,hz⟩:=i.c8 M _ A;have B:∃c,v= .slice (ad ⟨Q,d,none⟩) f c:=by
     cases q with
     |some c=>
      let ⟨R,r,h2⟩:=S
      rw[l]at r
      cases r
      exact⟨c,h2⟩
     |none=>
      let ⟨U,R,c,r,h2,_⟩:=S
      rw[r]at l
      simp only[cy,ar]at l
      subst l U
      exact⟨c,h2⟩
    obtain⟨c,rfl⟩:=B;have n:bc g ((az d s).take<|f*sz) ((az d vs).take<|f*sz):=(X.drop d).take _;have qy:=X.length;have C:Z ((az d vs).take<|f*sz)=f*sz:=bX;refine⟨_,Src.ofSlice W hu ⟨Q,d,none⟩ f c _ C ?_<|λu w=>Pw<|p _ n u w,n,?_,p _ n⟩
    .intro j u hj;let ⟨z,H⟩:=sB.1 hj;simp only[qm,sC]at H;have D:d+j<Z vs:=by rw[C]at z;omega
     simp only[k8];rw[tY hh (d+j) bX,vu D,H]
    .intro G K;exact i.ak _ _ A G<|E4 _ _ _<|B5 _ _ _ K
   .simp at k
  .simp at k
 .rename_i T ys;split at k
  .rename_i hT;simp only[ar,bK]at k;obtain⟨rfl,rfl,rfl⟩:=k;subst hT;let ⟨L,r,h2,h3,h4⟩:=VU (P:=P) S;have N:∀w':cD,(VV v).run P w'= .ok (Z ys) w':=by obtain⟨a,q,rfl,_⟩:=S;intro w';rfl
   exact⟨L,⟨.inl ⟨_,hu⟩,N,r W i.sub,r W.drew i.sub,h2,λu hu=>Pw<|h4 u hu⟩,Wa T ys L h2 h3,by rw[V'];simp,h4⟩
  .simp at k
 .simp only[ar,bK]at k;obtain⟨rfl,rfl,rfl⟩:=k;have B:v= .slice none 0 0:=S;subst B;exact⟨[],Src.ofNil W hu 0,J,by simp[b7],ay⟩
 .simp at k
def Wb{W}{l n ty p}{a:TypeInfo}(g:P.underlying l=ad (.slice p))(A:P.info? p=ad a){b off sLen sCap}{r}{m}
 {c vs}{t}(i:Src P a.size n r m c W) (B:W.heap[b]? =ad (.cells vs.toArray t (0,0))) (d:∀u∈c,nG u=af) (k:sLen+m<=sCap) (v:off+sLen*a.size+Z c<=Z vs):
  (vI #[l,n] ty #[.slice (ad ⟨b,off,none⟩) sLen sCap,r]).run P W= .ok (.slice (ad ⟨b,off,none⟩) (sLen+m) sCap) (iB W b (cN vs c<|off+sLen*a.size) t):=by
 have f:=zG (P:=P) b c W vs (off+sLen*a.size) 0 B G d
 simp only[jd]at f
 rcases i.kind with⟨C,x⟩|x<;>
  simp[vI,run_underlying g,run_underlying x,sizeOf,typeInfo,A,i.len,k,i.cells,k8,f]
end
section
variable{P:bZ}{tt:TT}
structure CT(P:bZ)(c t2 E:dI)(sz:Y)(bytes:Y):Prop where
 u1:P.underlying c=ad (.slice E)
 u2:∃e,P.underlying t2=ad (.slice e)
 info:∃a z,P.info? E=ad a/\a.size=sz/\a.bytes=bytes/\a.zero=ad z/\z.cells.size=sz
 pos:0<sz
def Px(a:St)(sz:Y):AV->aw (Y×Y×V C×V Y)
 | .c (.L id off len<|ad c)=>(match o id a.mem with
  |some (.box _ _ cs)=>if off+len*sz<=Z cs then ad (len,c,(az off cs).take<|len*sz,[id])else none
  |_=>none)
 | .c (.V<|.slice none 0 0)=>ad (0,0,[],[])
 |_=>none
def vW{st}{ids}{σ:Kn}(g:∀f∈fC st ids,σ f.1=ad f.2):∀a∈ids,∀c,o a st.mem=ad c->σ (.m a)=ad (.b c):=by intro a d c i;exact g (.m a,.b c)<|iP.2 ⟨a,d,by simp[i]⟩
def Kb{a:Act}{d}{x c}{g i}(f:d.op= .call ⟨.builtin .append,#[x,c],#[g,i]⟩){W k}{v}(l:(vI #[g,i] d.type #[a.eval x,a.eval c]).run P W= .ok v k):(execOp a.eval d).run P W= .ok (.value v) k:=by refine CP f<|λm=>?_;have e:(#[x,c]:Array dQ).map a.eval= #[a.eval x,a.eval c]:=ay;rw[e];simp only[J6,c9,l,df];rfl
def Wc{ops}{i}{aI:bh}{d:Y}(ho:ops[i]? =ad aI)(hg:aI.guard=none)(hd:aI.dst=ad d){n}(di:d<n){x cC}{t1 t2}(bV:aI.op= .call ⟨.builtin .append,#[x,cC],#[t1,t2]⟩)
 {B}{S}{sz t}(hT:CT P t1 t2 S sz t) {vx vy:AV} (hx:B.ev x=ad vx) (hy:B.ev cC=ad vy) {len c m:Y} {cb cs:V C} {ib is:V Y} (p:Px B sz vx=ad (len,c,cb,ib)) (hs:sS B sz vy=ad (m,cs,is)) (o7:cs.all jI=af)
  (FM:c<len+m) (M:((len+m)+(len+m)/4+192)*t<=281474976710656) (ag':len+m<=140737488355328) (Q:Y):
  gX P n ops i (cE B x++cE B cC++fC B (ib++is)) [(.s d,ad<|.v<|.c<|.L Q 0 (len+m) none),(.m Q,ad<|.b<|.box S sz<|cb++cs)] Q:=by
 refine Pv ho hg hd di _ _ _ _ _ Q ?_
 intro F X σ g W a k e
 have D:=dr k B x _ hx<|λI b8=>e I dP
 have sQ:=dr k B cC _ hy<|λI b8=>e I dP
 have N:=vW (st:=B) (ids:=ib++is) (σ:=σ)<|λI b8=>e I dP
 let ⟨e2,ij⟩:=hT.u2
 let ⟨inf,z,O,o6,R,vK,sM⟩:=hT.info
 let ⟨us,xS,vX,qA,vY⟩:=z8 (P:=P) k hs sQ (λH q b p=>N H (fZ _ q) b p) ij o7
 have w:∃(base:aw Addr)(f:V a4),a.eval x= .slice base len c/\bc g cb f/\Z f=len*sz/\(∀H∈b7 cb,X H)/\(xR inf.size len<|.slice base len c).run P W.drew= .ok f.toArray W.drew:=by
  unfold Px at p;split at p
  .rename_i H r l c';split at p
   .rename_i E' bz og hl;split at p
    .rename_i Kc;simp only[ar,bK]at p;obtain⟨rfl,rfl,rfl,rfl⟩:=p;have T:=N H ay _ hl;let ⟨b,vs,rest,hγ,hh,hr,hN,hz,vV⟩:=k.c8 H _ T;let ⟨b',h1,h2⟩:=D;rw[hγ]at h1;cases h1;have qy:=hr.length;have A:Z ((az r vs).take<|l*sz)=l*sz:=bX;refine⟨_,(az r vs).take<|l*sz,h2,(hr.drop r).take _,A,?_,?_⟩
     .intro xT U;exact k.ak _ _ T xT<|E4 _ _ _<|B5 _ _ _ U
     .rw[o6];refine run_firstCells_some W.drew sz l ⟨b,r,none⟩ l c' _ A ?_;intro j u hj;let ⟨BX,qi⟩:=sB.1 hj;simp only[qm,sC]at qi;have FN:r+j<Z vs:=by rw[A]at BX;omega
      simp only[k8];have FK:W.drew.heap[b]? =ad (.cells (vs++rest).toArray E' (0,0)):=hh;rw[tY FK (r+j) bX,vu FN,qi]
    .simp at p
   .simp at p
  .simp only[ar,bK]at p;obtain⟨rfl,rfl,rfl,rfl⟩:=p;have sr:a.eval x= .slice none 0 0:=D;exact⟨none,[],sr,J,ay,by simp[b7],run_firstCells_none W.drew _ 0 0 0⟩
  .simp at p
 let ⟨base,f,CU,hro,FG,FO,Py⟩:=w
 have hr:=run_append_grow_src (P:=P) W t1 t2 aI.type S inf z hT.u1 O vK base len c f Py (a.eval cC) m us Kd FM G (growslice_fits_wide FM<|by rw[R];exact M)
 have sD:=grownCap_ge W (len+m) c S
 refine⟨?_,f++us,(J5 z.cells<|grownCap W (len+m) c S-(len+m)).toList,grownCap W (len+m) c S,W.drew,hro.append vX,?_,J,J,J,ay,λ_=>?_,sD⟩
 .intro H q;rcases Cd _ _ H q with h|h
  .exact FO H h
  .exact qA H h
 .refine Kb bV ?_;rw[CU,hr];have K:(f++us).toArray++J5 z.cells (grownCap W (len+m) c S-(len+m))=(f++us++(J5 z.cells<|grownCap W (len+m) c S-(len+m)).toList).toArray:=by apply Cc;simp
  rw[K];rfl
 .have A:=xS.newsLen;simp only[hP,FG,A,FI,size_zeroCells,sM,<-fD];congr 1;omega
def ahb{r}{i}{H:bh}{d:Y}(ho:r[i]? =ad H)(hg:H.guard=none)(hd:H.dst=ad d){n}(M:d<n){x L}{t1 t2}(Q:H.op= .call ⟨.builtin .append,#[x,L],#[t1,t2]⟩)
 {k}{bx}{sz m}(S:CT P t1 t2 bx sz m) {vy:AV} (hx:k.ev x=ad (.c<|.V<|.slice none 0 0)) (hy:k.ev L=ad vy) {cs:V C} {is:V Y} (hs:sS k sz vy=ad (0,cs,is)) (o7:cs.all jI=af) (t:Y):
  gX P n r i (cE k x++cE k L++fC k is) [(.s d,ad<|.v<|.c<|.V<|.slice none 0 0)] t:=by
 refine rF ho hg hd M _ _ t ?_
 intro F K q g W a f p
 have X:a.eval x= .slice none 0 0:=dr f k x _ hx<|λu b8=>p u dP
 have b:=dr f k L _ hy<|λu b8=>p u dP
 have e:=vW (st:=k) (ids:=is) (σ:=q)<|λu b8=>p u dP
 let ⟨O,ij⟩:=S.u2
 let ⟨inf,z,A,B,h,w,D⟩:=S.info
 let ⟨us,l,G,I,N⟩:=z8 (P:=P) f hs b e ij o7
 refine⟨qj,.slice none 0 0,Kb Q ?_,J⟩
 rw[X]
 have j:=l.cells
 rw[<-B]at j
 simp[vI,run_underlying S.u1,run_underlying ij,sizeOf,typeInfo,A,l.len]
 rw[j]
 rfl
end
section
variable{P:bZ}{tt:TT}
def FP{a:Act}{d t}{v}{f:V (Key×aw Info)}{x}(ht:aE ((.s d,x)::f) (.s t)=none):(a.put (ad d) v).tmps.getD t undef=a.tmps.getD t undef:=by have c:d≠t:=qo;simp[gM,k7 c]
def ahc{ops}{i}{aI:bh}{d:Y}(ho:ops[i]? =ad aI)(hg:aI.guard=none)(hd:aI.dst=ad d){n}(di:d<n){x cC}{t1 t2}(bV:aI.op= .call ⟨.builtin .append,#[x,cC],#[t1,t2]⟩)
 {H}{bx}{sz bytes}(hT:CT P t1 t2 bx sz bytes) {A p f c:Y} {vy:AV} (hx:H.ev x=ad (.c<|.L A p f<|ad c)) (hy:H.ev cC=ad vy) {Eb:dI} {bz:Y} {og:V C} (hl:o A H.mem=ad (.box Eb bz og)) {m:Y} {cs:V C} {is:V Y} (hs:sS H sz vy=ad (m,cs,is)) (o7:cs.all jI=af)
  (hle:f+m<=c) (Kc:p+(f+m)*sz<=Z og) (new:Y):
  gX P n ops i (cE H x++cE H cC++fC H (A::is)) [(.s d,ad<|.v<|.c<|.L A p (f+m)<|ad c),(.m A,ad<|.b<|.box Eb bz<|cN og cs<|p+f*sz)] new:=by
 intro F kE Q known σ g W a K D aW X hK
 have vJ:=dr aW H x _ hx<|λI b8=>X I dP
 have sQ:=dr aW H cC _ hy<|λI b8=>X I dP
 have N:=vW (st:=H) (ids:=A::is) (σ:=σ)<|λI b8=>X I Ke
 let ⟨e2,ij⟩:=hT.u2
 let ⟨inf,z,O,o6,CQ,vK,sM⟩:=hT.info
 let ⟨us,xS,R,qA,vY⟩:=z8 (P:=P) aW hs sQ (λA eD b hb=>N A (jT _ eD) b hb) ij o7
 have r:=N A ay _ hl
 let ⟨b,vs,rest,M,hh,hr,hN,hz,vV⟩:=aW.c8 A _ r
 let ⟨b',h1,CU⟩:=vJ
 rw[M]at h1
 cases h1
 have o8:=xS.newsLen
 have rA:=R.length
 have qy:=hr.length
 have vZ:(f+m)*sz=f*sz+m*sz:=fD _ _ _
 have q:p+f*sz+Z us<=Z vs:=G
 have S:=Wb (P:=P) (ty:=aI.type) (W:=W) hT.u1 O (b:=b) (off:=p) (sLen:=f) (sCap:=c) Kd hh vY hle (by rw[o6];simp;omega)
 rw[o6]at S
 have T:cN (vs++rest) us (p+f*sz)=cN vs us (p+f*sz)++rest:=OY vs rest us _ q
 unfold wpOp
 simp only[ho,gH,hg,b9]
 refine .inl ?_
 unfold m0
 rw[Kb bV (by rw[CU];exact S)]
 simp only[m5,hd]
 have U:d<a.tmps.size:=mj
 have hb:b<W.heap.size:=(fQ.1 hh).1
 refine hK g _ _<|aW.step (chg:=λj=>j=A) (g':=g) ⟨⟨cK.refl _,λ_ _=>rfl⟩,λ_ _ _=>rfl,zH aW.sub hz,zJ,?_,J,J,J⟩ _ new D mm aW.defers (λt w=>FP w) ?_ ?_ ?_ ?_ ?_
 .intro k hk il;have:b≠k:=λe=>il A J (by rw[M,e])
  exact xE this
 .intro j B;subst B;exact⟨xH,_,r⟩
 .intro t u w;simp only[aE]at w;split at w
  .rename_i e;simp only[Key.s.injEq]at e;simp only[ar,Info.v.injEq]at w;subst e;subst w;refine⟨b,M,?_⟩;simp[gM,U]
  .simp at w
 .intro j bk B;simp only[aE,reduceCtorEq,bN]at B;split at B
  .rename_i e';simp only[Key.m.injEq]at e';subst e';simp only[ar,Info.b.injEq]at B;subst B;refine⟨⟨b,cN vs us<|p+f*sz,rest,M,by rw[xD hb,T],hr.cN R _,hN,hz,λh0=>?_⟩,.inl ⟨aW.dO _ _ r,_,r⟩⟩;let ⟨c',e1,e2⟩:=vV h0;refine⟨c',e1,?_⟩;rw[<-T,xF _ _ _ bX];exact e2
  .simp at B
 .intro k z' l;simp only[aE]at l;split at l
  .simp only[ar]at l;subst l;intro j B;simp[Info.ak,AV.ak,C.ak]at B;subst B;exact .inl<|aW.dO _ _ r
  .split at l
   .simp only[ar]at l;subst l;intro j B;rcases Fj _ _ _ j B with h|h
    .exact .inl<|aW.ak _ _ r j h
    .exact .inl<|qA j h
   .simp at l
 .intro j z' l;simp only[aE,reduceCtorEq,bN]at l;split at l
  .rename_i e';simp only[Key.m.injEq]at e';subst e';exact .inl<|aW.dO _ _ r
  .simp at l
def ahd{ops}{i}{aI:bh}{d:Y}(ho:ops[i]? =ad aI)(hg:aI.guard=none)(hd:aI.dst=ad d){n}(di:d<n){x cC}{t1 t2}(bV:aI.op= .call ⟨.builtin .append,#[x,cC],#[t1,t2]⟩)
 {st}{bx}{sz bytes}(hT:CT P t1 t2 bx sz bytes) {r off f:Y} {vy:AV} (hx:st.ev x=ad (.c<|.L r off f none)) (hy:st.ev cC=ad vy) {og:V C} (hl:o r st.mem=ad (.box bx sz og)) {m:Y} {cs:V C} {is:V Y} (hs:sS st sz vy=ad (m,cs,is)) (o7:cs.all jI=af)
  (Kc:f*sz<=Z og) (ahe:((f+m)+(f+m)/4+192)*bytes<=281474976710656) (ag':f+m<=140737488355328) (A:Y):
  gX P n ops i (cE st x++cE st cC++fC st (r::is)) [(.s d,ad<|.v<|.c<|.L A 0 (f+m) none),(.m A,ad<|.b<|.box bx sz<|h (f*sz) og++cs),(.m r,none)] A:=by
 intro F kE Q X σ g W a K q aW fA hK
 have vJ:=dr aW st x _ hx<|λkx b8=>fA kx dP
 have sQ:=dr aW st cC _ hy<|λkx b8=>fA kx dP
 have oh:=vW (st:=st) (ids:=r::is) (σ:=σ)<|λkx b8=>fA kx Ke
 let ⟨e2,ij⟩:=hT.u2
 let ⟨inf,z,ua,o6,CQ,vK,sM⟩:=hT.info
 let ⟨us,xS,vX,qA,vY⟩:=z8 (P:=P) aW hs sQ (λr eD b hb=>oh r (jT _ eD) b hb) ij o7
 have w:=oh r ay _ hl
 have FE:=hT.pos
 let ⟨b,vs,rest,hγ,hh,hr,hN,hz,vV⟩:=aW.c8 r _ w
 let ⟨c,ahf,ahg⟩:=vV G
 let ⟨h0,b',c',h1,CU,hlc⟩:=vJ
 rw[ahf]at h1
 simp only[Value.slice.injEq,ar,Addr.mk.injEq,and_true,true_and]at h1
 obtain⟨rfl,rfl⟩:=h1
 have o8:=xS.newsLen
 have rA:=vX.length
 have qy:=hr.length
 have Wd:r≠A:=λe=>q<|e▸aW.dO _ _ w
 have O:∀aI,g.H W.heap.size aI=none:=by
  intro aI;cases hv:g.H W.heap.size aI with
  |none=>rfl
  |some v=>
   have:=Ch W _<|aW.sub _ _ _ hv
   simp at this
 have hbW:b<W.heap.size:=(fQ.1 hh).1
 have D:(h (f*sz) vs).length=f*sz:=bX
 have hrp:bc g (h (f*sz) og++cs) (h (f*sz) vs++us):=(hr.take _).append vX
 have I:∀j∈b7 (h (f*sz) og++cs),X j:=by
  intro j B;rcases Cd _ _ j B with cF|cF
  .exact aW.ak _ _ w j<|B5 _ _ _ cF
  .exact qA j cF
 have PA:∃(v':a4)(R:cD)(b' c':Y)(p:V a4),(vI #[t1,t2] aI.type #[a.eval x,a.eval cC]).run P W= .ok v' R/\v'= .slice (ad ⟨b',0,none⟩) (f+m) c'/\f+m<=c'/\
   R.heap[b']? =ad (.cells (h (f*sz) vs++us++p).toArray bx (0,0))/\(h (f*sz) vs++us++p).length=c'*sz/\W.heap.size<=R.heap.size/\(∀k,k<W.heap.size->b≠k->R.heap[k]? =W.heap[k]?)/\R.os=W.os/\R.tape=W.tape/\R.output=W.output/\Sub g.H R/\(∀aI,g.H b' aI=none)/\F.N b'/\(W.heap.size<=b'\/b'=b):=by
  by_cases M:f+m<=c
  .have vZ:(f+m)*sz<=c*sz:=dT _ M;rw[fD]at vZ;have FJ:Z (vs++rest)=Z vs+Z rest:=hP;have S:=Wb (P:=P) (ty:=aI.type) (W:=W) hT.u1 ua (b:=b) (off:=0) (sLen:=f) (sCap:=c) Kd hh vY M (by rw[o6];omega);rw[o6,eF]at S;have z9:cN (vs++rest) us (f*sz)=h (f*sz) vs++us++az (f*sz+Z us) (vs++rest):=by unfold cN;rw[vw G]
   refine⟨_,_,b,c,az (f*sz+Z us)<|vs++rest,by rw[CU];exact S,J,M,by rw[xD hbW,z9],?_,zJ,λk _ T=>xE T,J,J,J,zH aW.sub hz,hz,hN,.inr J⟩;rw[<-z9,xF _ _ _ G];exact ahg
  .have Py:(xR inf.size f<|.slice (ad ⟨b,0,none⟩) f c).run P W.drew= .ok (h (f*sz) vs).toArray W.drew:=by
    rw[o6];refine run_firstCells_some W.drew sz f ⟨b,0,none⟩ f c _ D ?_;intro j u B;let ⟨BX,qi⟩:=sB.1 B;simp only[qm]at qi;have FN:j<Z vs:=by rw[D]at BX;omega
    simp only[k8,eF];have FK:W.drew.heap[b]? =ad (.cells (vs++rest).toArray bx (0,0)):=hh;rw[tY FK j bX,vu FN,qi]
   have FM:c<f+m:=G;have hr':=run_append_grow_src (P:=P) W t1 t2 aI.type bx inf z hT.u1 ua vK (ad ⟨b,0,none⟩) f c _ Py (a.eval cC) m us Kd FM G (growslice_fits_wide FM<|by rw[CQ];exact ahe);have sD:=grownCap_ge W (f+m) c bx;refine⟨_,_,W.heap.size,grownCap W (f+m) c bx,(J5 z.cells<|grownCap W (f+m) c bx-(f+m)).toList,by rw[CU];exact hr',J,sD,?_,?_,ay,λk T _=>heap_alloc_old W.drew _ T,J,J,J,zK aW.sub _,O,.inl aW.below.size,.inl (a7 _)⟩
   .rw[show W.heap.size=W.drew.heap.size from J,heap_alloc_new];congr 2;apply Cc;simp
   .simp only[hP,D,o8,FI,size_zeroCells,sM,<-fD];congr 1;omega
 let ⟨v',R,bn,cn,p,S,sr,FQ,hhn,We,ahm,U,ho1,ho2,ho3,ahq,hHn,hNn,aht⟩:=PA
 unfold wpOp
 simp only[ho,gH,hg,b9]
 refine .inl ?_
 unfold m0
 rw[Kb bV S]
 simp only[m5,hd]
 have z6:d<a.tmps.size:=mj
 let g':Gh:=⟨g.H,λr=>if r=A then .slice (ad ⟨bn,0,none⟩) 0 cn else g.γ r⟩
 have Kf:g'.γ A= .slice (ad ⟨bn,0,none⟩) 0 cn:=by simp[g']
 have CR:fY X g g':=⟨cK.refl _,λr eD=>by
  have:r≠A:=λe=>q<|e▸eD
  simp[g',this]⟩
 refine hK g' _ _<|aW.step (chg:=λj=>j=r) (g':=g') ⟨CR,λ_ _ _=>rfl,ahq,ahm,?_,ho1,ho2,ho3⟩ _ A q mm aW.defers (λt ht=>FP ht) ?_ ?_ ?_ ?_ ?_
 .intro k T il;exact U k T (λe=>il r J<|by rw[hγ,e])
 .intro j B;subst B;exact⟨by simp[aE,Ne.symm Wd],_,w⟩
 .intro t u ht;simp only[aE]at ht;split at ht
  .rename_i e;simp only[Key.s.injEq]at e;simp only[ar,Info.v.injEq]at ht;subst e;subst ht;refine⟨J,bn,cn,Kf,?_,FQ⟩;simp[gM,z6,sr]
  .simp at ht
 .intro j bk B;simp only[aE,reduceCtorEq,bN]at B;split at B
  .rename_i e';simp only[Key.m.injEq]at e';subst e';simp only[ar,Info.b.injEq]at B;subst B;refine⟨⟨bn,_,p,by rw[Kf];rfl,hhn,bc.mono CR I hrp,hNn,hHn,λ_=>⟨cn,Kf,We⟩⟩,.inr ⟨J,λk T=>?_⟩⟩;rw[Kf]at T;simp only[cy,ar]at T;subst T;rcases aht with cF|cF
   .exact .inl cF
   .refine .inr ⟨r,_,w,?_,by rw[hγ,cF]⟩;simp[aE,Ne.symm Wd]
  .split at B<;>simp at B
 .intro k z' l;simp only[aE]at l;split at l
  .simp only[ar]at l;subst l;intro j B;simp[Info.ak,AV.ak,C.ak]at B;exact .inr B
  .split at l
   .simp only[ar]at l;subst l;exact λj B=> .inl<|I j B
   .split at l<;>simp at l
 .intro j z' l;simp only[aE,reduceCtorEq,bN]at l;split at l
  .rename_i e';simp only[Key.m.injEq]at e';exact .inr e'.symm
  .split at l<;>simp at l
end
section
variable{P:bZ}{tt:TT}
def ahu{ops}{i}{aI:bh}{d:Y}(ho:ops[i]? =ad aI)(hg:aI.guard=none)(hd:aI.dst=ad d){n}(di:d<n){x cC}{t1 t2}(bV:aI.op= .call ⟨.builtin .copy,#[x,cC],#[t1,t2]⟩)
 {M}{bx}{sz bytes}(hT:CT P t1 t2 bx sz bytes) {A l S:Y} {Wf:aw Y} {vy:AV} (hx:M.ev x=ad (.c<|.L A l S Wf)) (hy:M.ev cC=ad vy) {Eb:dI} {bz:Y} {og:V C} (hl:o A M.mem=ad (.box Eb bz og)) {m:Y} {cs:V C} {is:V Y} (hs:sS M sz vy=ad (m,cs,is)) (o7:cs.all jI=af)
  (hle:m<=S) (Kc:l+m*sz<=Z og) (new:Y):
  gX P n ops i (cE M x++cE M cC++fC M (A::is)) [(.s d,ad<|.v<|.c<|.I .i64 m),(.m A,ad<|.b<|.box Eb bz<|cN og cs l)] new:=by
 intro F kE Q known σ g W a K N aW X hK
 have O:=dr aW M x _ hx<|λR b8=>X R dP
 have sQ:=dr aW M cC _ hy<|λR b8=>X R dP
 have T:=vW (st:=M) (ids:=A::is) (σ:=σ)<|λR b8=>X R Ke
 let ⟨e2,ij⟩:=hT.u2
 let ⟨inf,z,U,o6,CQ,vK,sM⟩:=hT.info
 let ⟨us,B,vX,qA,vY⟩:=z8 (P:=P) aW hs sQ (λA eD b hb=>T A (jT _ eD) b hb) ij o7
 have p:=T A ay _ hl
 let ⟨b,vs,rest,r,hh,hr,hN,hz,vV⟩:=aW.c8 A _ p
 have q:∃c,a.eval x= .slice (ad ⟨b,l,none⟩) S c:=by
  cases Wf with
  |some c=>
   let ⟨b',h1,h2⟩:=O
   rw[r]at h1
   cases h1
   exact⟨c,h2⟩
  |none=>
   let ⟨h0,b',c,h1,h2,_⟩:=O
   rw[h1]at r
   simp only[cy,ar]at r
   subst r h0
   exact⟨c,h2⟩
 let ⟨c,q⟩:=q
 have o8:=B.newsLen
 have rA:=vX.length
 have qy:=hr.length
 have w:l+Z us<=Z vs:=G
 have sT:=zG (P:=P) b us W (vs++rest) l 0 hh bX vY
 simp only[jd]at sT
 have z9:cN (vs++rest) us l=cN vs us l++rest:=OY vs rest us _ w
 have iR:(Builtin.copy_ #[t1,t2] aI.type #[a.eval x,a.eval cC]).run P W= .ok (.int .i64 m) (iB W b (cN (vs++rest) us l) Eb):=by rw[q];have PB:Nat.min m S=m:=qf hle;have hc:=B.cells;simp[Builtin.copy_,run_underlying hT.u1,sizeOf,typeInfo,U,B.len,PB,o6,hc,sT,goInt,jH,pure]
 have hex:(execOp a.eval aI).run P W= .ok (.value<|.int .i64 m) (iB W b (cN (vs++rest) us l) Eb):=by refine CP bV<|λcs=>?_;have e:(#[x,cC]:Array dQ).map a.eval= #[a.eval x,a.eval cC]:=ay;rw[e];simp only[J6,c9,iR,df];rfl
 unfold wpOp
 simp only[ho,gH,hg,b9]
 refine .inl ?_
 unfold m0
 rw[hex]
 simp only[m5,hd]
 have z6:d<a.tmps.size:=mj
 have hb:b<W.heap.size:=(fQ.1 hh).1
 refine hK g _ _<|aW.step (chg:=λj=>j=A) (g':=g) ⟨⟨cK.refl _,λ_ _=>rfl⟩,λ_ _ _=>rfl,zH aW.sub hz,zJ,?_,J,J,J⟩ _ new N mm aW.defers (λt D=>FP D) ?_ ?_ ?_ ?_ ?_
 .intro k hk il;have:b≠k:=λe=>il A J (by rw[r,e])
  exact xE this
 .intro j H;subst H;exact⟨xH,_,p⟩
 .intro t u D;simp only[aE]at D;split at D
  .rename_i e;simp only[Key.s.injEq]at e;simp only[ar,Info.v.injEq]at D;subst e;subst D;simp[gM,z6,bG,da]
  .simp at D
 .intro j bk H;simp only[aE,reduceCtorEq,bN]at H;split at H
  .rename_i e';simp only[Key.m.injEq]at e';subst e';simp only[ar,Info.b.injEq]at H;subst H;refine⟨⟨b,cN vs us l,rest,r,by rw[xD hb,z9],hr.cN vX _,hN,hz,λh0=>?_⟩,.inl ⟨aW.dO _ _ p,_,p⟩⟩;let ⟨c',e1,e2⟩:=vV h0;refine⟨c',e1,?_⟩;rw[<-z9,xF _ _ _ bX];exact e2
  .simp at H
 .intro k z' f;simp only[aE]at f;split at f
  .simp only[ar]at f;subst f;intro j H;simp[Info.ak,AV.ak,C.ak]at H
  .split at f
   .simp only[ar]at f;subst f;intro j H;rcases Fj _ _ _ j H with h|h
    .exact .inl<|aW.ak _ _ p j h
    .exact .inl<|qA j h
   .simp at f
 .intro j z' f;simp only[aE,reduceCtorEq,bN]at f;split at f
  .rename_i e';simp only[Key.m.injEq]at e';subst e';exact .inl<|aW.dO _ _ p
  .simp at f
def xU(a:St):V dQ->aw (V<|Bool×V C)
 |[]=>ad []
 |x::xs=>(match a.ev x with
  |some v=>(match qv v,xU a xs with
   |some c,ad r=>ad<|c::r
   |_,_=>none)
  |none=>none)
def Kg{v}{f}(d:qv v=ad f):b7 f.2=v.ak:=by
 cases v with
 |c x=>simp only[qv,ar]at d;subst d;simp[b7,AV.ak]
 |a cs=>simp only[qv,ar]at d;subst d;rfl
 |t _=>simp[qv]at d
def PC{F:eP}{d:Y->Prop}{A:Kn}{g:Gh}{W:cD}{a:Act}(m:bw F d A g W a)(i:St):∀(xs:V dQ)(k:V (Bool×V C)),xU i xs=ad k->
  (∀f∈xs.flatMap (cE i),A f.1=ad f.2)->fX g k (xs.map a.eval)/\∀l∈fP k,d l
 |[],k,he,_=>by simp only[xU,ar]at he;subst he;exact⟨J,by simp[fP]⟩
 |x::xs,k,he,n=>by
  simp only[xU]at he;split at he
  .rename_i v B;split at he
   .rename_i M r H p;simp only[ar]at he;subst he;have L:=dr m i x v B<|λf b8=>n f dP;have t:=rE m i x v B<|λf b8=>n f dP;let ⟨h2,u⟩:=PC m i xs r p (λf b8=>n f<|by simp only[kH,bg];exact .inr b8);refine⟨⟨_,_,J,Pe H L,h2⟩,?_⟩;intro l c;simp only[fP,bg]at c;rcases c with c|c
    .rw[Kg H]at c;exact t l c
    .exact u l c
   .simp at he
  .simp at he
def ahv{ops}{i}{aI:bh}{d:Y}(ho:ops[i]? =ad aI)(hg:aI.guard=none)(hd:aI.dst=ad d){n}(di:d<n){f}{first p}(bV:aI.op= .makeFunc (.func f) first p)
 {st}{fs cs}(hf:xU st first.toList=ad fs) (hc:xU st p.toList=ad cs) new:
  gX P n ops i ((first.toList++p.toList).flatMap<|cE st) [(.s d,ad<|.v<|.c<|.X new),(.m new,ad<|.b<|.jG f fs cs)] new:=by
 intro F kE Q L V g W a K B aW q R
 let ⟨E,w⟩:=PC aW st _ _ hf (λG M=>q G<|by rw[CV];exact eh _ M)
 let ⟨I,z⟩:=PC aW st _ _ hc (λG M=>q G<|by rw[CV];exact fZ _ M)
 have N:(execOp a.eval aI).run P W= .ok (.value<|.func (.func f) (first.toList.map a.eval).toArray (p.toList.map a.eval).toArray) W:=by rw[execOp,bV];have T:first.map a.eval=(first.toList.map a.eval).toArray:=zS;have U:p.map a.eval=(p.toList.map a.eval).toArray:=zS;simp only[Instr.makeFunc,T,U];rfl
 unfold wpOp
 simp only[ho,gH,hg,b9]
 refine .inl ?_
 unfold m0
 rw[N]
 simp only[m5,hd]
 have D:d<a.tmps.size:=mj
 let v:a4:= .func (.func f) (first.toList.map a.eval).toArray (p.toList.map a.eval).toArray
 let S:Gh:=⟨g.H,λA=>if A=new then v else g.γ A⟩
 have j:S.γ new=v:=by simp[S]
 have x:fY L g S:=⟨cK.refl _,λA r=>by
  have:A≠new:=λe=>B<|e▸r
  simp[S,this]⟩
 refine R S _ _<|aW.step (chg:=λ_=>False) (g':=S) ⟨x,λ_ _ _=>rfl,aW.sub,a7 _,λ_ _ _=>rfl,J,J,J⟩ _ new B mm aW.defers (λt l=>FP l) (λ_ h=>h.elim) ?_ ?_ ?_ ?_
 .intro t u l;simp only[aE]at l;split at l
  .rename_i e;simp only[Key.s.injEq]at e;simp only[ar,Info.v.injEq]at l;subst e;subst l;show _=S.γ new;rw[j];simp[gM,D,v]
  .simp at l
 .intro A b l;simp only[aE,reduceCtorEq,bN]at l;split at l
  .rename_i e;simp only[Key.m.injEq]at e;subst e;simp only[ar,Info.b.injEq]at l;subst l;refine⟨⟨_,_,j,fX.mono x w E,fX.mono x z I⟩,.inr ⟨J,λk O=>?_⟩⟩;rw[j]at O;simp[cy,v]at O
  .simp at l
 .intro k y l;simp only[aE]at l;split at l
  .simp only[ar]at l;subst l;intro A r;simp[Info.ak,AV.ak,C.ak]at r;exact .inr r
  .split at l
   .simp only[ar]at l;subst l;intro A r;rcases bg.1 r with h|h
    .exact .inl<|w A h
    .exact .inl<|z A h
   .simp at l
 .intro A y l;simp only[aE,reduceCtorEq,bN]at l;split at l
  .rename_i e;simp only[Key.m.injEq]at e;exact .inr e.symm
  .simp at l
end
def m9(a:V a4):Act:={tmps:=a.toArray,defers:=[]}
structure CX(P:bZ)(f:FuncId)(vs:V AV)(fm:V (Y×aN))(k:Y)(r:AV)(a:V (Y×aN))(d:Y):Prop where
 call:ob P f=af
 le:k<=d
 spec:∀(F:eP)(g:Gh)(W:cD)(c:V a4),F.n=vs.length->c.length=vs.length->bw F (·<k) (St.kn ⟨dv 0 vs,fm,0,[]⟩) g W (m9 c)->
  Calls P f c.toArray W (λe i=>∃v l,e= .returned v/\bw {F with n:=1} (·<d) (St.kn ⟨[(0,r)],a,0,[]⟩) l i (m9 [v]))
def o9(a:V (Y×aN)):V (Y×aN)->V (Key×aw Info)
 |[]=>[]
 | (id,_)::r=>(.m id,(o id a).map .b)::o9 a r
def kN(k:Y):V (Y×aN)->V (Key×aw Info)
 |[]=>[]
 | (id,a)::r=>if k<=id then(.m id,ad<|.b a)::kN k r else kN k r
def v3{u v:V (Key×aw Info)}{k:Key}:aE (u++v) k=match aE u k with|some x=>ad x|none=>aE v k:=by
 induction u with
 |nil=>rfl
 |cons p u a=>
  let ⟨c,x⟩:=p
  simp only[mc,aE]
  split
  .rfl
  .exact a
def FR(a:V (Y×aN))(t:Y):∀fm,aE (o9 a fm) (.s t)=none
 |[]=>rfl
 | (id,c)::r=>by simp[o9,aE,FR a t r]
def Aa(k:Y)(t:Y):∀fm,aE (kN k fm) (.s t)=none
 |[]=>rfl
 | (id,a)::r=>by
  simp only[kN];split
  .simp[aE,Aa k t r]
  .exact Aa k t r
def Kh(a:V (Y×aN))(c:Y):∀fm:V (Y×aN),aE (o9 a fm) (.m c)=if(o c fm).isSome then ad ((o c a).map .b)else none
 |[]=>rfl
 | (id,f)::r=>by
  simp only[o9,aE,o,Key.m.injEq];by_cases d:id=c
  .simp[d]
  .simp only[d,bN];exact Kh a c r
def Ab(k a:Y):∀fm:V (Y×aN),aE (kN k fm) (.m a)=if k<=a then(o a fm).map (λf=>ad<|.b f)else none
 |[]=>by simp[kN,aE,o]
 | (id,f)::r=>by
  simp only[kN,o];by_cases d:k<=id
  .simp only[d,b9,aE,Key.m.injEq];by_cases c:id=a
   .subst c;simp[d]
   .simp only[c,bN];exact Ab k a r
  .simp only[d,bN];by_cases c:id=a
   .subst c;rw[Ab k id r];simp[d]
   .simp only[c,bN];exact Ab k a r
def Ac(k:Y)(fm:V (Y×aN)):V Y->Bool
 |[]=>af
 |id::r=>(eJ k id||(o id fm).isSome)&&Ac k fm r
def Ad(k:Y)(fm:V (Y×aN)):V (Y×aN)->Bool
 |[]=>af
 | (id,a)::r=>(eJ k id||(o id fm).isSome)&&Ac k fm a.ak&&Ad k fm r
def PD{k:Y}{fm:V (Y×aN)}:∀{l:V Y},Ac k fm l=af->∀c∈l,k<=c\/∃g,o c fm=ad g
 |[],_,_,a=>by cases a
 |i::r,d,c,a=>by
  simp only[Ac,cr,xJ]at d;rcases bY.1 a with rfl|a
  .rcases d.1 with f|f
   .exact .inl<|dc f
   .exact .inr<|FT.1 f
  .exact PD d.2 c a
def PE{k:Y}{fm:V (Y×aN)}:∀{l:V (Y×aN)},Ad k fm l=af->∀d a,o d l=ad a->(k<=d\/∃a,o d fm=ad a)/\∀g∈a.ak,k<=g\/∃a,o g fm=ad a
 |[],_,_,_,c=>by simp[o]at c
 | (g,x)::r,f,d,a,c=>by
  simp only[Ad,cr,xJ]at f;simp only[o]at c;split at c
  .rename_i m;subst m;cases c;refine⟨?_,PD f.1.2⟩;rcases f.1.1 with i|i
   .exact .inl<|dc i
   .exact .inr<|FT.1 i
  .exact PE f.2 d a c
def ik.CW{M L:Y->Prop}{g x}{W}{t}{a}(i:ik M g W t a)(u:∀k,cy (g.γ t)=ad k->L k)(hγ:x.γ t=g.γ t)(hH:x.H=g.H)(l:fY (λp=>p∈a.ak) g x):ik L x W t a:=by
 cases a with
 |box E sz cs=>
  let ⟨a,vs,rest,e,c,v,A,hz,hc⟩:=i
  exact⟨a,vs,rest,pe,c,bc.mono l (λp d=>d) v,u a e,FU,by rw[hγ];exact hc⟩
 |vec E T xs=>
  rcases i with⟨e,P⟩|⟨a,B,vs,e,c,C,F,Q,S,A,hz⟩
  .exact .inl ⟨pe,P⟩
  .exact .inr ⟨a,B,vs,pe,c,C,F,Q,by rw[hH];exact S,u a tU,FU⟩
 |jG f first K=>
  let ⟨us,ws,e,C,F⟩:=i
  exact⟨us,ws,pe,fX.mono l (λp d=>eh _ d) C,fX.mono l (λp d=>fZ _ d) F⟩
 |fz E cs=>
  let ⟨a,vs,rest,e,c,v,A,hz⟩:=i
  exact⟨a,vs,rest,pe,c,bc.mono l (λp d=>d) v,u a e,FU⟩
 |mp o q xs=>
  let ⟨r,es,e,c,v,A,hz⟩:=i
  exact⟨r,es,pe,c,iM.mono l (λp d=>d) v,u r tU,FU⟩
 |it m n seen=>
  let ⟨r,a,e,X,c,A,hz⟩:=i
  exact⟨r,a,pe,by rw[l.γ m (by simp[aN.ak])];exact X,c,u r tU,FU⟩
def ik.v5{known:Y->Prop}{z3:Y->Prop}{g L}{W W'}{u}{a}(A:ik z3 g W u a)(v:fY known g L)(M:known u)(B:∀F∈a.ak,known F)
  (l:∀k,cy (g.γ u)=ad k->W'.heap[k]? =W.heap[k]? /\∀c,L.H k c=g.H k c):ik z3 L W' u a:=by
 have hγ:=v.γ u M
 cases a with
 |box E sz cs=>
  let ⟨a,vs,rest,e,d,C,p,t,hc⟩:=A
  exact⟨a,vs,rest,pe,by rw[(l a e).1];exact d,bc.mono v B C,p,λc=>by rw[(l a e).2];exact t c,by rw[hγ];exact hc⟩
 |vec E T xs=>
  rcases A with⟨e,K⟩|⟨a,P,vs,e,K,d,Q,q,s,p,t⟩
  .exact .inl ⟨pe,K⟩
  .have x:cy (g.γ u)=ad a:=by rw[e];rfl
   exact .inr ⟨a,P,vs,pe,by rw[(l a x).1];exact K,d,Q,q,λi w=>cV.mono v.H T _ _<|s i w,p,λc=>by rw[(l a x).2];exact t c⟩
 |jG f first X=>
  let ⟨us,ws,e,d,Q⟩:=A
  exact⟨us,ws,pe,fX.mono v (λF S=>B F<|eh _ S) d,fX.mono v (λF S=>B F<|fZ _ S) Q⟩
 |fz E cs=>
  let ⟨a,vs,rest,e,d,C,p,t⟩:=A
  exact⟨a,vs,rest,pe,by rw[(l a e).1];exact d,bc.mono v B C,p,λc=>by rw[(l a e).2];exact t c⟩
 |mp z D xs=>
  let ⟨r,es,e,d,C,p,t⟩:=A
  have x:cy (g.γ u)=ad r:=tU
  exact⟨r,es,pe,by rw[(l r x).1];exact d,iM.mono v B C,p,λc=>by rw[(l r x).2];exact t c⟩
 |it m n seen=>
  let ⟨r,a,e,y,d,p,t⟩:=A
  have x:cy (g.γ u)=ad r:=tU
  exact⟨r,a,pe,by rw[v.γ m (B m<|by simp[aN.ak])];exact y,by rw[(l r x).1];exact d,p,λc=>by rw[(l r x).2];exact t c⟩
section
variable{P:bZ}{tt:TT}
def Wg{k:St}{F:eP}{d:Y->Prop}{n:Kn}{g:Gh}{W:cD}{a:Act}(p:bw F d n g W a):∀(xs:V dQ)(vs:V AV),jw k xs=ad vs->(∀f∈xs.flatMap (cE k),n f.1=ad f.2)->∀i∈cY vs,d i
 |[],vs,he,_,i,c=>by simp only[jw,ar]at he;subst he;cases c
 |x::xs,vs,he,r,i,c=>by
  simp only[jw]at he;split at he
  .rename_i v l t m;simp only[ar]at he;subst he;simp only[cY,bg]at c;rcases c with c|c
   .exact rE p k x v t (λf b8=>r f dP) i c
   .exact Wg p xs l m (λf b8=>r f<|by simp only[kH,bg];exact .inr b8) i c
  .simp at he
def Wh{f}{vs}{fm Q}{k k'}{r}(hf:CX P f vs fm k r Q k')(PF:∀c∈cY vs,c<k)(oh:∀c p,o c fm=ad p->c<k/\∀A∈p.ak,A<k)(PG:∀c∈r.ak,k<=c\/∃p,o c fm=ad p)
  (FV:∀c p,o c Q=ad p->o c fm=ad p\/∀A∈p.ak,k<=A\/∃p,o A fm=ad p)
 {Fc}{M:Y->Prop} {σ}{g}{W}{a}(l:bw Fc M σ g W a) (vk:∀c,(k<=c/\c<k')->¬M c) {us}(Ki:ff g vs us) (Wi:∀c∈cY vs,M c)
  (fA:∀c p,o c fm=ad p->σ (.m c)=ad (.b p)) {d}(hd:d<a.tmps.size):
  Calls P f us.toArray W (λcz W'=>∃v g',cz= .returned v/\bw Fc (λc=>M c\/(k<=c/\c<k')) (bH σ<|(.s d,ad<|.v r)::(o9 Q fm++kN k Q)) g' W' (a.put (ad d) v)):=by
 have o8:=xL Ki
 let F:eP:={w0:=W,H0:=g.H,n:=Z vs,own:=λp=>∃c bb,o c fm=ad bb/\cy (g.γ c)=ad p,k0:=k,γ0:=g.γ}
 have hN:∀p,F.N p->p<W.heap.size->Fc.N p:=by
  intro p K V;rcases K with K|⟨c,bb,S,h2⟩
  .exact absurd K (G:¬W.heap.size<=p)
  .exact((l.c8 c bb<|fA c bb S).block h2).1
 have hN':∀p,F.N p->Fc.N p:=by
  intro p K;rcases K with K|⟨c,bb,S,h2⟩
  .exact .inl<|cj l.below.size K
  .exact((l.c8 c bb<|fA c bb S).block h2).1
 have h0:bw F (·<k) (St.kn ⟨dv 0 vs,fm,0,[]⟩) g W (m9 us):=by
  refine⟨by simp[m9,F,o8],J,?_,?_,?_,?_,?_,l.sub,⟨J,J,J,a7 _,λ_ _ _=>rfl⟩,cK.refl _,λ_ _ _ _=>rfl,λc B=>⟨B,J⟩⟩
  .intro t v ht;simp only[St.kn,cL]at ht;let ⟨x,hx,he⟩:=ht;cases he;let ⟨_,u,hu,hr,_⟩:=nL vs us 0 Ki t v hx;have BQ:us[t]? =ad u:=xM;simp only[m9,nI,tW,BQ,qe];exact hr
  .intro c p K;simp only[St.kn,cL]at K;let ⟨x,hx,he⟩:=K;cases he;exact(l.c8 c p<|fA c p hx).CW (λC kM=> .inr ⟨c,p,hx,kM⟩) J J ⟨cK.refl _,λ_ _=>rfl⟩
  .intro c xT p b' C K nE S h2;simp only[St.kn,cL]at K nE;let ⟨x,hx,he⟩:=K;let ⟨x',hx',FW⟩:=nE;cases he;cases FW;exact l.inj c xT p b' C (fA c p hx) (fA xT b' hx') S h2
  .intro key x hx c B;cases key with
   |s t=>
    simp only[St.kn,cL]at hx
    let ⟨y,hy,he⟩:=hx
    subst he
    let ⟨_,_,_,_,h6⟩:=nL vs us 0 Ki t y hy
    exact PF c<|h6 c B
   |m A=>
    simp only[St.kn,cL]at hx
    let ⟨y,hy,he⟩:=hx
    subst he
    exact(oh A y hy).2 c B
  .intro c x hx;simp only[St.kn,cL]at hx;let ⟨y,hy,he⟩:=hx;exact(oh c y hy).1
 refine(hf.spec F g W us J o8 h0).mono ?_
 rintro cz W' ⟨v,g',rfl,S⟩
 refine⟨v,⟨g'.H,λc=>if k<=c/\c<k' then g'.γ c else g.γ c⟩,J,?_⟩
 generalize PH:(⟨g'.H,λc=>if k<=c/\c<k' then g'.γ c else g.γ c⟩:Gh)=g2
 have T:g2.H=g'.H:=by rw[<-PH]
 have Wj:∀c,g2.γ c=if k<=c/\c<k' then g'.γ c else g.γ c:=by rw[<-PH];intro c;rfl
 have z:∀c,c<k'->g2.γ c=g'.γ c:=by
  intro c B;rw[Wj];split
  .rfl
  .rename_i hn;exact(S.gW c (G:c<k)).2.symm
 have U:fY (·<k') g' g2:=⟨by rw[T];exact cK.refl _,λc B=>z c B⟩
 have L:fY M g g2:=⟨by rw[T];exact S.le,λc B=>by rw[Wj,b];intro hc;exact vk c hc B⟩
 have Wl:∀c p,o c fm=ad p->M c:=λc p K=>l.dO _ _<|fA c p K
 have z7:∀c,(k<=c\/∃p,o c fm=ad p)->c<k'->M c\/(k<=c/\c<k'):=by
  intro c h h2;rcases h with h|⟨p,K⟩
  .exact .inr ⟨h,h2⟩
  .exact .inl<|Wl c p K
 have Wm:∀c∈r.ak,c<k':=λc B=>S.ak (.s 0) (.v r) (by simp[St.kn,o]) c B
 have q:∀C,C<W.heap.size->¬F.own C->W'.heap[C]? =W.heap[C]? /\∀aI,g'.H C aI=g.H C aI:=λC I w=>⟨S.below.block C I w,λaI=>S.fresh C aI I w⟩
 have PI:∀A,aE ((.s d,ad<|.v r)::(o9 Q fm++kN k Q)) (.m A)=if(o A fm).isSome then ad ((o A Q).map .b)else if k<=A then(o A Q).map (λp=>ad<|.b p)else none:=by
  intro A;simp only[aE,reduceCtorEq,bN,v3,Kh,Ab];by_cases h:(o A fm).isSome=af
  .simp[h]
  .simp[h]
 have D:∀A p,bH σ ((.s d,ad<|.v r)::(o9 Q fm++kN k Q)) (.m A)=ad (.b p)->(o A Q=ad p/\A<k')\/(o A fm=none/\σ (.m A)=ad (.b p)/\M A):=by
  intro A p K;simp only[bH,PI]at K;by_cases h:(o A fm).isSome=af
  .simp only[h,b9,cL]at K;let ⟨x,hx,he⟩:=K;cases he;exact .inl ⟨hx,S.dO A (.b p)<|by simp[St.kn,hx]⟩
  .have w:o A fm=none:=by simpa using h
   simp only[h,bN,gY]at K;by_cases I:k<=A
   .simp only[I,b9]at K;cases hx:o A Q with
    |none=>
     rw[hx]at K
     simp only[Option.map_none]at K
     exact .inr ⟨w,K,l.dO _ _ K⟩
    |some x=>
     rw[hx]at K
     simp only[ud,ar,Info.b.injEq]at K
     subst K
     exact .inl ⟨J,S.dO A (.b x)<|by simp[St.kn,hx]⟩
   .simp only[I,bN]at K;exact .inr ⟨w,K,l.dO _ _ K⟩
 have X:∀A p C,o A fm=none->σ (.m A)=ad (.b p)->cy (g.γ A)=ad C->C<W.heap.size/\¬F.own C:=by intro A p C h2 E h4;refine⟨((l.c8 A p E).block h4).2,?_⟩;rintro⟨c,bb,h5,h6⟩;have:=l.inj A c p bb C E (fA c bb h5) h4 h6;subst this;rw[h2]at h5;cases h5
 refine⟨by simp[gM,l.size],l.defers,?_,?_,?_,?_,?_,by rw[T];exact S.sub,?_,by rw[T];exact l.le.trans S.le,?_,?_⟩
 .intro t u ht;simp only[bH,aE,v3,FR,Aa]at ht;by_cases cz:d=t
  .subst cz;simp only[b9,ar,Info.v.injEq]at ht;subst ht;have hr:=S.eC 0 r (by simp[St.kn,o]);have hv:(a.put (ad d) v).tmps.getD d undef=v:=by simp[gM,hd]
   rw[hv];exact bG.mono U Wm (by simpa[m9]using hr)
  .have e':¬(Key.s d=Key.s t):=λh=>cz dH
   simp only[e',bN]at ht;have hv:(a.put (ad d) v).tmps.getD t undef=a.tmps.getD t undef:=by simp[gM,k7 cz]
   rw[hv];exact bG.mono L (λc B=>l.ak _ _ ht c B)<|l.eC t u ht
 .intro A p K;rcases D A p K with⟨h2,E⟩|⟨h2,E,h4⟩
  .have FX:=S.c8 A p FY;exact FX.CW (λC kM=>hN' C (FX.block kM).1) (z A E) T ⟨U.H,λi hi=>U.γ i<|S.ak (.m A) (.b p) FY i hi⟩
  .refine(l.c8 A p E).v5 L h4 (λi hi=>l.ak _ _ E i hi)<|λC kM=>?_;let ⟨h5,h6⟩:=X A p C h2 E kM;rw[T];exact q C h5 h6
 .intro A j' p b' C K nE O R;rcases D A p K with⟨h2,E⟩|⟨h2,E,h4⟩<;>rcases D j' b' nE with⟨CY,FZ⟩|⟨CY,FZ,Je⟩
  .rw[z A E]at O;rw[z j' FZ]at R;exact S.inj A j' p b' C FY (by simp[St.kn,CY]) O R
  .exfalso;rw[z A E]at O;rw[L.γ j' Je]at R;let ⟨h5,h6⟩:=X j' b' C CY FZ R;rcases((S.c8 A p FY).block O).1 with h7|h7
   .exact absurd h7 (G:¬W.heap.size<=C)
   .exact h6 h7
  .exfalso;rw[z j' FZ]at R;rw[L.γ A h4]at O;let ⟨h5,h6⟩:=X A p C h2 E O;rcases((S.c8 j' b'<|by simp[St.kn,CY]).block R).1 with h7|h7
   .exact absurd h7 (G:¬W.heap.size<=C)
   .exact h6 h7
  .rw[L.γ A h4]at O;rw[L.γ j' Je]at R;exact l.inj A j' p b' C E FZ O R
 .intro key x hx c B;cases key with
  |s t=>
   simp only[bH,aE,v3,FR,Aa]at hx
   by_cases cz:d=t
   .subst cz;simp only[b9,ar]at hx;subst hx;exact z7 c (PG c B)<|Wm c B
   .have e':¬(Key.s d=Key.s t):=λh=>cz dH
    simp only[e',bN]at hx;exact .inl<|l.ak _ _ hx c B
  |m A=>
   cases x with
   |v u=>
    simp only[bH,PI]at hx
    by_cases h:(o A fm).isSome=af
    .simp only[h,b9,cL]at hx;let ⟨_,_,he⟩:=hx;cases he
    .simp only[h,bN,gY]at hx;by_cases I:k<=A
     .simp only[I,b9]at hx;cases hy:o A Q with
      |none=>rw[hy]at hx;exact .inl<|l.ak (.m A) (.v u) CZ c B
      |some y=>rw[hy]at hx;simp at hx
     .simp only[I,bN]at hx;exact .inl<|l.ak _ _ hx c B
   |b p=>
    rcases D A p hx with⟨h2,E⟩|⟨h2,E,h4⟩
    .rcases FV A p h2 with h7|h7
     .exact .inl<|l.ak _ _ (fA A p h7) c B
     .exact z7 c (h7 c B)<|S.ak (.m A) (.b p) FY c B
    .exact .inl<|l.ak _ _ E c B
 .intro A x hx;simp only[bH,PI]at hx;by_cases h:(o A fm).isSome=af
  .let ⟨p,K⟩:=FT.1 h;exact .inl<|Wl A p K
  .simp only[h,bN,gY]at hx;by_cases I:k<=A
   .simp only[I,b9]at hx;cases hy:o A Q with
    |none=>rw[hy]at hx;exact .inl<|l.dO _ _ CZ
    |some y=>exact .inr ⟨I,S.dO A (.b y)<|by simp[St.kn,hy]⟩
   .simp only[I,bN]at hx;exact .inl<|l.dO _ _ hx
 .refine⟨S.below.os.trans l.below.os,S.below.tape.trans l.below.tape,S.below.output.trans l.below.output,cj l.below.size S.below.size,λC I w=>?_⟩;have V:C<W.heap.size:=iz I l.below.size;rw[<-l.below.block C I w];refine(q C V<|λho=>?_).1;rcases hN C (.inr ho) V with h2|h2
  .omega
  .exact w h2
 .intro C aI I w;have V:C<W.heap.size:=iz I l.below.size;rw[T,(q C V<|λho=>?_).2 aI]
  .exact l.fresh C aI I w
  .rcases hN C (.inr ho) V with h2|h2
   .omega
   .exact w h2
 .intro c B;let ⟨h2,E⟩:=l.gW c B;exact⟨.inl h2,by rw[L.γ c h2];exact E⟩
def ahy{f}{vs}{fm l}{k u}{r}(hf:CX P f vs fm k r l u)(x:xK k (cY vs)=af)(A:vF k fm=af)(B:Ac k fm r.ak=af)(F:Ad k fm l=af)
 {S}{c:Y->Prop} {H}{g}{W}{a}(p:bw S c H g W a) (t:∀i,(k<=i/\i<u)->¬c i) {us}(L:ff g vs us) (M:∀i∈cY vs,c i)
  (Q:∀i n,o i fm=ad n->H (.m i)=ad (.b n)) {d}(hd:d<a.tmps.size):
  Calls P f us.toArray W (λcz W'=>∃v g',cz= .returned v/\bw S (λi=>c i\/(k<=i/\i<u)) (bH H<|(.s d,ad<|.v r)::(o9 l fm++kN k l)) g' W' (a.put (ad d) v)):=
 Wh hf (JO x) (λi n h=>JP A i n h) (PD B) (λi n h=> .inr (PE F i n h).2) p t L M Q hd
end
def F0:Bool×V C->aw AV
 | (af,cs)=>ad<|.a cs
 | (false,[c])=>ad<|.c c
 |_=>none
def rN:V (Bool×V C)->aw (V AV)
 |[]=>ad []
 |a::r=>(match F0 a,rN r with
  |some v,ad vs=>ad<|v::vs
  |_,_=>none)
def v7(d:St)(g:dQ)(args:V dQ):aw (FuncId×V AV×V Y):=match jw d args with
 |some vs=>(match d.ev g with
  |some (.c<|.V<|.func (.func f) ⟨[]⟩ ⟨[]⟩)=>ad (f,vs,[])
  |some (.c<|.X id)=>(match o id d.mem with
   |some (.jG f first a)=>(match rN first,rN a with
    |some us,ad ws=>ad (f,us++(vs++ws),[id])
    |_,_=>none)
   |_=>none)
  |_=>none)
 |none=>none
def Kj{g:Gh}:∀{m:V (Bool×V C)}{vs:V AV}{i:V a4},rN m=ad vs->fX g m i->ff g vs i
 |[],vs,i,a,k=>by simp only[rN,ar]at a;subst a;exact k
 |n::r,vs,i,a,k=>by
  simp only[rN]at a;split at a
  .rename_i v p d t;simp only[ar]at a;subst a;obtain⟨u,l,rfl,f,x⟩:=k;refine⟨u,l,J,?_,Kj t x⟩;match n,d,f with
   | (af,cs),d,f=>simp only[F0,ar]at d;subst d;exact f
   | (false,[c]),d,f=>simp only[F0,ar]at d;subst d;exact f
  .simp at a
def C0:∀{i:V (Bool×V C)}{vs:V AV},rN i=ad vs->∀g∈cY vs,g∈fP i
 |[],vs,d,g,a=>by simp only[rN,ar]at d;subst d;cases a
 |k::r,vs,d,g,a=>by
  simp only[rN]at d;split at d
  .rename_i v l f m;simp only[ar]at d;subst d;simp only[cY,bg]at a;simp only[fP,bg];rcases a with a|a
   .left;match k,f with
    | (af,cs),f=>simp only[F0,ar]at f;subst f;exact a
    | (false,[c]),f=>simp only[F0,ar]at f;subst f;simpa[b7,AV.ak]using a
   .exact .inr<|C0 m g a
  .simp at d
def ff.append{g:Gh}:∀{xs c:V AV}{d f:V a4},ff g xs d->ff g c f->ff g (xs++c) (d++f)
 |[],_,_,_,a,h2=>by simp only[ff]at a;subst a;exact h2
 |x::xs,_,_,_,a,h2=>by obtain⟨u,r,rfl,i,k⟩:=a;exact⟨u,r++_,J,i,ff.append k h2⟩
def Kk xs a:cY (xs++a)=cY xs++cY a:=by
 induction xs with
 |nil=>rfl
 |cons x xs c=>simp[cY,c]
section
variable{P:bZ}{tt:TT}
def PJ{f}{g c}{W}(a:ob P f=af):(invoke (.fn (.func f) c) g).run P W= .ok (.enter f<|g++c) W:=by
 unfold ob at a;cases d:P.funcs[f]? with
 |none=>rw[d]at a;simp at a
 |some fn=>
  rw[d]at a
  simp only[cr,bne_iff_ne,ne_eq]at a
  have i:fn.body≠none:=by intro k;rw[k]at a;simp at a
  simp[invoke,callFunc,d,a.1,i]
def Wn{F}{k:Y->Prop}{M}{g}{W}{a}(c:bw F k M g W a){n}{aI}{r}{args}{Q}(x:aI.op= .call ⟨.value r,args,Q⟩){f}{vs}{A}(d:v7 n r args.toList=ad (f,vs,A))(B:ob P f=af)
  (l:∀i∈cE n r++args.toList.flatMap (cE n)++fC n A,M i.1=ad i.2):∃S:V a4,(execOp a.eval aI).run P W= .ok (.enter f S.toArray) W/\ff g vs S/\∀v∈cY vs,k v:=by
 unfold v7 at d
 split at d
 .rename_i y C;have q:=Cw c n _ _ C (λi b8=>l i<|by simp only[bg];exact .inl<|.inr b8);have H:=Wg c _ _ C (λi b8=>l i<|by simp only[bg];exact .inl<|.inr b8);have m:args.map a.eval=(args.toList.map a.eval).toArray:=zS;split at d
  .rename_i s t;simp only[ar,bK]at d;obtain⟨rfl,rfl,rfl⟩:=d;have X:a.eval r= .func (.func s) #[] #[]:=dr c n r _ t (λi b8=>l i<|by simp only[bg];exact .inl<|.inl b8);refine⟨args.toList.map a.eval,?_,q,H⟩;rw[execOp,x];simp only[resolve,X,F1,pure_bind,PJ B,m];simp
  .rename_i v t;split at d
   .rename_i s first w z
    split at d
    .rename_i S G K L;simp only[ar,bK]at d;obtain⟨rfl,rfl,rfl⟩:=d;have X:a.eval r=g.γ v:=dr c n r _ t (λi b8=>l i<|by simp only[bg];exact .inl<|.inl b8);have u:=vW (st:=n) (ids:=[v]) (σ:=M) (λi b8=>l i Ke) v ay _ z;let ⟨D,E,b,e,h⟩:=c.c8 v _ u;refine⟨D++(args.toList.map a.eval++E),?_,(Kj K e).append<|q.append<|Kj L h,?_⟩
     .rw[execOp,x];simp only[resolve,X,b,F1,pure_bind,PJ B,m];simp
     .intro j p;rw[Kk,Kk,bg,bg]at p;rcases p with p|p|p
      .exact c.ak _ _ u j<|eh _<|C0 K j p
      .exact H j p
      .exact c.ak _ _ u j<|fZ _<|C0 L j p
    .simp at d
   .simp at d
  .simp at d
 .simp at d
def ahz{B}{i}{aI:bh}{d:Y}(ho:B[i]? =ad aI)(hg:aI.guard=none)(hd:aI.dst=ad d){n}(di:d<n){cf}{args}{jZ}(bV:aI.op= .call ⟨.value cf,args,jZ⟩)
 {u}{f}{vs:V AV} {H:V Y} (ht:v7 u cf args.toList=ad (f,vs,H)) {fm m:V (Y×aN)} {k k':Y} {r:AV} (hf:CX P f vs fm k r m k') (PF:xK k (cY vs)=af) (oh:vF k fm=af) (PG:Ac k fm r.ak=af) (FV:Ad k fm m=af)
  (hfm:∀c t,o c fm=ad t->o c u.mem=ad t):
  vn P n B i (cE u cf++args.toList.flatMap (cE u)++fC u H++fC u (fm.map (·.1))) ((.s d,ad<|.v r)::(o9 m fm++kN k m)) (λc=>k<=c/\c<k'):=by
 intro F kE Q q E g W a K C aW L G
 let ⟨us,hex,M,w⟩:=Wn aW bV ht hf.call<|λy A=>L y<|eh _ A
 have S:=vW (st:=u) (ids:=fm.map (·.1)) (σ:=E)<|λy A=>L y<|fZ _ A
 have z:∀{l:V (Y×aN)}{c:Y}{t:aN},o c l=ad t->c∈l.map (·.1):=by
  intro l;induction l with
  |nil=>intro c t h;simp[o]at h
  |cons p l I=>
   let ⟨j,x⟩:=p
   intro c t h
   simp only[o]at h
   split at h
   .rename_i e;simp[e]
   .exact jT _<|I h
 have X:d<a.tmps.size:=mj
 have J:=ahy hf PF oh PG FV aW C M w (λc t D=>S c (z D) t<|hfm c t D) X
 unfold wpOp
 simp only[ho,gH,hg,b9]
 refine .inl ?_
 unfold m0
 rw[hex]
 simp only[m5,hd]
 refine J.mono ?_
 rintro e N ⟨v,O,rfl,R⟩
 exact G O N _ R
def ahB{f}{vs}{r}(n:al P f vs r)(hm:cY vs=[]) fm k:CX P f vs fm k r fm k:=by
 refine⟨n.call,a7 _,?_⟩;intro F g W c hn T a;have z:ff g vs c:=by
  have K:∀(vs:V AV)(c:V a4)(i:Y)(all:V a4),Z c=Z vs->(∀j,j<Z c->all[i+j]? =c[j]?)->(∀t v,o t (dv i vs)=ad v->bG g v (all.toArray.getD t undef))->ff g vs c:=by
   intro vs;induction vs with
   |nil=>intro c i all hl _ _;exact fB tX
   |cons x vs ih=>
    intro c i all hl B O
    cases c with
    |nil=>simp at hl
    |cons u c=>
     refine⟨u,c,J,?_,ih c (i+1) all tX ?_ ?_⟩
     .have U:=O i x (by simp[dv,o]);have R:=B 0 ay;simp only[jd,mn]at R;simpa[R]using U
     .intro j hj;have:=B (j+1) sH;rw[(G:i+1+j=i+(j+1))];simpa using this
     .intro t v L;refine O t v ?_;have il:∀(l:V AV)(D:Y),i<D->∀v,o i (dv D l)=ad v->False:=by
       intro l;induction l with
       |nil=>intro D _ v n;simp[dv,o]at n
       |cons y l ihl=>
        intro D M v n
        simp only[dv,o]at n
        split at n
        .omega
        .exact ihl (D+1) G v n
      simp only[dv,o];split
      .rename_i e;subst e;exact(il vs (i+1) G v L).elim
      .exact L
  exact K vs c 0 c T (λj hj=>ay) (λt v L=>a.eC t v<|by simp[St.kn,L])
 refine(n.spec g.H W c a.sub<|z.iC hm).mono ?_;rintro e W' ⟨v,H',rfl,O,hle,E,I,d⟩;refine⟨v,⟨H',g.γ⟩,J,⟨J,a.defers,?_,?_,?_,?_,?_,I,?_,a.le.trans hle,?_,a.gW⟩⟩
 .intro t u L;simp only[St.kn,o,cL]at L;let ⟨x,A,he⟩:=L;cases he;split at A
  .rename_i e;subst e;cases A;have:=O.iC n.iC (cK.refl _) g.γ;simpa[m9]using this
  .cases A
 .intro p b q;have Q:St.kn ⟨dv 0 vs,fm,0,[]⟩ (.m p)=ad (.b b):=q;have C:=a.c8 p b Q;refine C.v5 (known:=(·<k)) ⟨hle,λ_ _=>rfl⟩ (a.dO p _ Q) (λj hj=>a.ak _ _ Q j hj)<|λS kM=>?_;have M:=(C.block kM).2;exact⟨d.block S M,λw=>E S w M⟩
 .intro p xT b b' S q nE U R;exact a.inj p xT b b' S q nE U R
 .intro K x A p N;cases K with
  |m j=>exact a.ak (.m j) x A p N
  |s t=>
   simp only[St.kn,o,cL]at A
   let ⟨y,hy,he⟩:=A
   subst he
   split at hy
   .cases hy;have:p∈r.ak:=N;rw[n.iC]at this;cases this
   .cases hy
 .intro p x A;exact a.dO p x A
 .exact⟨d.os.trans a.below.os,d.tape.trans a.below.tape,d.output.trans a.below.output,cj a.below.size d.size,λS hk X=>by rw[d.block S (iz hk a.below.size)];exact a.below.block S hk X⟩
 .intro b w q X;show H' b w=F.H0 b w;rw[E b w (iz q a.below.size)];exact a.fresh b w q X
end
def g5{a:Type}(t:Y)(v:a):V (Y×a)->V (Y×a)
 |[]=>[(t,v)]
 | (k,x)::r=>if k=t then(t,v)::r else(k,x)::g5 t v r
def nM{d:Type}(t a:Y)(v:d):∀l:V (Y×d),o a (g5 t v l)=if t=a then ad v else o a l
 |[]=>by simp[g5,o]
 | (k,x)::r=>by
  simp only[g5];split
  .rename_i c;subst c;simp only[o];split<;>rfl
  .rename_i c;simp only[o];split
   .rename_i f;subst f;rw[b (λg=>c g.symm)]
   .exact nM t a v r
def fL(P:bZ)(n:Y)(c:Array bh)(i:Y)(l d:St)(k m:Y)(p:Ks):Prop:=
 ∃f g,vn P n c i f g (λr=>k<=r/\r<m)/\(∀t∈f,l.kn t.1=ad t.2)/\d.kn=bH l.kn g/\k<=m/\(∀a∈dx f,a∈p.1)/\∀a∈fJ g,a∈p.2
section
variable{P:bZ}{tt:TT}
def fL.PK{n}{a}{i}{p c d}{k}{r}(t:kI P n a i p c k r)(f:d.kn=c.kn):fL P n a i p d k (k+1) r:=by let ⟨rd,wr,u,g,v,l,m⟩:=t;exact⟨rd,wr,u.OD ⟨a7 _,G⟩,g,by rw[f,v],G,l,m⟩
def fL.lK{n}{c}{i}{l d:St}{k}{m}{f}{g}(x:gX P n c i f g k)(p:∀v∈f,l.kn v.1=ad v.2)(r:d.kn=bH l.kn g)(t:∀a∈dx f,a∈m.1)(u:∀a∈fJ g,a∈m.2):fL P n c i l d k (k+1) m:=
 ⟨f,g,x.OD ⟨a7 _,G⟩,p,r,G,t,u⟩
def fL.lift{n}{d}{i}{p}(B:d[i]? =ad p)(u:p.guard=none){v f}{k x}{A}(H:fL P n #[p] 0 v f k x A):fL P n d i v f k x A:=by let ⟨rd,wr,C,h2⟩:=H;refine⟨rd,wr,?_,h2⟩;intro F r Q c L g W a K l m M S;have t:=C F r Q c L g W a K l m M S;unfold wpOp at t⊢;simp only[B,gH,u,b9];simp only[tW,mn,gH,u,b9]at t;exact t
def fL.guard{n}{f}{i}{x}(ho:f[i]? =ad x){jg}{d}(hg:x.guard=ad (jg,d)){r}(hj:nH f.toList jg=ad r){A t}(hb:o r A.sl=ad (.c<|.B d)){k k'}{H}
  (m:fL P n #[{x with guard:=none}] 0 A t k k' H):fL P n f i A t k k' (.s r::H.1,H.2):=by
 let ⟨rd,wr,z,C,L,hle,M,S⟩:=m
 refine⟨(.s r,.v<|.c<|.B d)::rd,wr,?_,?_,L,hle,λX w=>?_,S⟩
 .intro F b Q p D g W a K u l y E;have e:=z F b Q p D g W a K u l (λq b8=>y q dP) E;have G:=l.eC r (.c<|.B d)<|y (.s r,.v<|.c<|.B d) ay;have I:gH x (yielded f a.tmps)=af:=by simp only[gH,hg,Cq hj G,beq_self_eq_true]
  unfold wpOp at e⊢;simp only[ho,I,b9];simp only[tW,mn,gH,b9]at e;exact e
 .intro q b8;rcases bY.1 b8 with rfl|m
  .simp[St.kn,hb]
  .exact C q m
 .simp only[dx,hJ,bY]at w;rcases w with m|m
  .simp[m]
  .exact jT _<|M X m
def PL(a:St) d x:(⟨g5 d x a.sl,a.mem,a.nx,a.gd⟩:St).kn=bH a.kn [(.s d,ad<|.v x)]:=by
 funext key;cases key with
 |s t=>
  by_cases e:d=t
  .simp[St.kn,nM,bH,aE,e]
  .simp[St.kn,nM,bH,aE,e]
 |m id=>simp[St.kn,bH,aE]
def C1(a:St) d id x c:(⟨g5 d x a.sl,(id,c)::a.mem,a.nx,a.gd⟩:St).kn=bH a.kn [(.s d,ad<|.v x),(.m id,ad<|.b c)]:=by
 funext key;cases key with
 |s t=>
  by_cases e:d=t
  .simp[St.kn,nM,bH,aE,e]
  .simp[St.kn,nM,bH,aE,e]
 |m j=>
  by_cases e:id=j
  .simp[St.kn,o,bH,aE,e]
  .simp[St.kn,o,bH,aE,e]
def Wo(a:St) d id x c:(⟨g5 d x a.sl,g5 id c a.mem,a.nx,a.gd⟩:St).kn=bH a.kn [(.s d,ad<|.v x),(.m id,ad<|.b c)]:=by
 funext key;cases key with
 |s t=>
  by_cases e:d=t
  .simp[St.kn,nM,bH,aE,e]
  .simp[St.kn,nM,bH,aE,e]
 |m j=>
  by_cases e:id=j
  .simp[St.kn,nM,bH,aE,e]
  .simp[St.kn,nM,bH,aE,e]
def ahD(a:St) d id new x c(f:id≠new):(⟨g5 d x a.sl,(new,c)::rI id a.mem,a.nx,a.gd⟩:St).kn=bH a.kn [(.s d,ad<|.v x),(.m new,ad<|.b c),(.m id,none)]:=by
 funext key;cases key with
 |s t=>
  by_cases e:d=t
  .simp[St.kn,nM,bH,aE,e]
  .simp[St.kn,nM,bH,aE,e]
 |m j=>
  by_cases e:new=j
  .simp[St.kn,o,bH,aE,e]
  .simp only[St.kn,o,bH,aE,e,reduceCtorEq,Key.m.injEq,bN,zO];split<;>simp
end
abbrev F3:=FuncId->V AV->V (Y×aN)->Y->aw (AV×V (Y×aN)×Y)
def Ko{a:Type}:V (Y×a)->V (Y×a)
 |[]=>[]
 | (t,v)::r=>g5 t v r
def na(c m:Bool)(a:St):St:=⟨cond c (Ko a.sl) a.sl,cond m (Ko a.mem) a.mem,a.nx,a.gd⟩
def Wp{c:Type}(a:Y):∀l:V (Y×c),o a (Ko l)=o a l
 |[]=>rfl
 | (t,v)::r=>by simp only[Ko,nM,o]
def Wq a m st:(na a m st).kn=st.kn:=by
 funext key;cases key with
 |s t=>cases a<;>simp[St.kn,na,Wp]
 |m id=>cases m<;>simp[St.kn,na,Wp]
def xV(c:TT)(f g:Y):aw (Y×TI):=match o f c,o g c with
 |some a,ad b=>(match a.kind,b.kind with
  | .sl E,.sl _=>(match o E c with
   |some d=>if 0<d.size then ad (E,d)else none
   |none=>none)
  |_,_=>none)
 |_,_=>none
def reach:Y->V (Y×aN)->V Y->V (Y×aN)->V (Y×aN)
 |0,_,_,acc=>acc
 |_+1,_,[],acc=>acc
 |f+1,mem,id::todo,acc=>match o id acc with
  |some _=>reach f mem todo acc
  |none=>(match o id mem with
   |some a=>reach f mem (a.ak++todo)<|(id,a)::acc
   |none=>reach f mem todo acc)
def F4(a c d:Y):Bool:=eJ ((c+c/4+192)*d) 281474976710656&&eJ c 16777216&&eJ a 16777216
def C2(fm:V (Y×aN)):V (Y×aN)->V (Y×aN)
 |[]=>[]
 | (id,a)::r=>match o id fm with
  |some _=>C2 fm r
  |none=>(id,a)::C2 fm r
def PM(r:TT)(n k d:Y)(x i:dQ)(t u:Y)(a:St):aw (St×Y×Ks):=match xV r t u with
 |some (E,g)=>(match a.ev x,a.ev i with
  |some v,ad A=>(match sS a g.size A with
   |some (m,cs,is)=>if cs.all jI=af then(match v with
    | .c (.V<|.slice none 0 0)=>if m=0 then ad (⟨g5 d (.c<|.V<|.slice none 0 0) a.sl,a.mem,a.nx,a.gd⟩,k+1,(bF [x,i]++cX is,[.s d]))
     else if F4 0 m g.bytes then ad (⟨g5 d (.c<|.L k 0 m none) a.sl,(k,.box E g.size cs)::a.mem,a.nx,a.gd⟩,k+1,(bF [x,i]++cX is,[.s d,.m k]))else none
    | .c (.L id off len<|ad c)=>(match o id a.mem with
     |some (.box l p f)=>if len+m<=c then
       (if off+(len+m)*g.size<=Z f then ad (⟨g5 d (.c<|.L id off (len+m)<|ad c) a.sl,g5 id (.box l p<|cN f cs<|off+len*g.size) a.mem,a.nx,a.gd⟩,k+1,(bF [x,i]++cX (id::is),[.s d,.m id]))else none)
      else(if off+len*g.size<=Z f/\F4 0 (len+m) g.bytes=af then ad (⟨g5 d (.c<|.L k 0 (len+m) none) a.sl,(k,.box E g.size<|(az off f).take (len*g.size)++cs)::a.mem,a.nx,a.gd⟩,k+1,(bF [x,i]++cX (id::is),[.s d,.m k]))else none)
     |_=>none)
    | .c (.L id _ len none)=>(match o id a.mem with
     |some (.box l p f)=>if l=E/\p=g.size/\len*g.size<=Z f/\id≠k/\F4 0 (len+m) g.bytes=af then
       ad (⟨g5 d (.c<|.L k 0 (len+m) none) a.sl,(k,.box E g.size<|h (len*g.size) f++cs)::rI id a.mem,a.nx,a.gd⟩,k+1,(bF [x,i]++cX (id::is),[.s d,.m k,.m id]))else none
     |_=>none)
    |_=>none)else none
   |none=>none)
  |_,_=>none)
 |none=>none
section
variable{P:bZ}{tt:TT}
def Kq(d:cd P tt=af){v x A}{m}(c:xV tt v x=ad (A,m)):CT P v x A m.size m.bytes:=by
 unfold xV at c;split at c
 .rename_i a b F H;split at c
  .rename_i L M n p;split at c
   .rename_i r f;split at c
    .rename_i g;simp only[ar,bK]at c;obtain⟨rfl,rfl⟩:=c;have B:=(dW d F).kind;rw[n]at B;have C:=(dW d H).kind;rw[p]at C;let ⟨inf,i,k,l,z,t,u⟩:=(dW d f).info;have K:=(dW d f).Vg;refine⟨B,⟨_,C⟩,⟨inf,z,i,k,l,t,?_⟩,g⟩;have:Z z.cells.toList=Z (r.zero.map ZV.eE):=by rw[u]
     simp only[FI,cR]at this;omega
    .simp at c
   .simp at c
  .simp at c
 .simp at c
def PN{a d c}(f:F4 a d c=af):(d+d/4+192)*c<=281474976710656/\d<=140737488355328:=by simp only[F4,cr]at f;have g:=dc f.1.1;have i:=dc f.1.2;exact⟨g,G⟩
def Ae{c}{x d}{a}:∀f∈dx (cE c x++cE c d++fC c a),f∈bF [x,d]++cX a:=by
 intro k g;simp only[dx,fe,bg]at g;rcases g with(h|h)|h
 .exact eh _<|eo c [x,d] k uc
 .exact eh _<|eo c [x,d] k vB
 .exact fZ _<|jY c a k h
def C3{d}{x g}{c}:∀a∈cE d x++cE d g++fC d c,d.kn a.1=ad a.2:=by
 intro a f;rcases bg.1 f with h|h
 .rcases bg.1 h with h|h
  .exact eG _ x a h
  .exact eG _ g a h
 .exact k9 _ c a h
def ahE(cp:cd P tt=af){n k d:Y}(f:d<n){u:bh}(v:u.guard=none)(A:u.dst=ad d){x cC}{t1 t2:Y}(g:u.op= .call ⟨.builtin .append,#[x,cC],#[t1,t2]⟩){p B}{k'}{ks}
  (a:PM tt n k d x cC t1 t2 p=ad (B,k',ks)):fL P n #[u] 0 p B k k' ks:=by
 have C:(#[u]:Array bh)[0]? =ad u:=rfl
 unfold PM at a
 split at a
 .rename_i E s w;have F:=Kq cp w;split at a
  .rename_i J N H K;split at a
   .rename_i m O is L;split at a
    .rename_i i;split at a
     .split at a
      .rename_i q;subst q;simp only[ar,bK]at a;obtain⟨rfl,rfl,rfl⟩:=a;exact .lK (ahb C v A f g F H K L i k) C3 (PL p d _) Ae lL
      .split at a
       .rename_i q r;let ⟨M,h2⟩:=PN r;simp only[ar,bK]at a;obtain⟨rfl,rfl,rfl⟩:=a;have:=Wc C v A f g F H K (len:=0) (c:=0) (cb:=[]) (ib:=[]) (by rfl) L i G (by simpa using M) o0 k;simp only[eF,sF]at this;exact .lK this C3 (C1 p d k _ _) Ae lL
       .simp at a
     .rename_i W Q t c;split at a
      .rename_i z D S X;split at a
       .rename_i e;split at a
        .rename_i l;simp only[ar,bK]at a;obtain⟨rfl,rfl,rfl⟩:=a;exact .lK (ahc C v A f g F H K X L i e l k) C3 (Wo p d W _ _) Ae lL
        .simp at a
       .rename_i I;split at a
        .rename_i b;let ⟨M,h2⟩:=PN b.2;simp only[ar,bK]at a;obtain⟨rfl,rfl,rfl⟩:=a;have:=Wc C v A f g F H K (len:=t) (c:=c) (cb:=(az Q S).take<|t*s.size) (ib:=[W]) (by simp[Px,X,b.1]) L i G M h2 k;exact .lK this C3 (C1 p d k _ _) Ae lL
        .simp at a
      .simp at a
     .rename_i W Q t;split at a
      .rename_i z D S X;split at a
       .rename_i b;obtain⟨rfl,rfl,l,j,r⟩:=b;let ⟨M,h2⟩:=PN r;simp only[ar,bK]at a;obtain⟨rfl,rfl,rfl⟩:=a;exact .lK (ahd C v A f g F H K X L i l M h2 k) C3 (ahD p d W k _ _ j) Ae lL
       .simp at a
      .simp at a
     .simp at a
    .simp at a
   .simp at a
  .simp at a
 .simp at a
end
def Kt(fm a mem:V (Y×aN)):V (Y×aN):=match fm with
 |[]=>a++mem
 |fm=>a++C2 fm mem
def PO(g:F3)(k d:Y)(i:dQ)(args:V dQ)(c:St):aw (St×Y×Ks):=match v7 c i args with
 |some (f,vs,ids)=>(match reach 1000 c.mem (cY vs) []with
  |fm=>(match g f vs fm k with
   |some (r,a,l)=>if xK k (cY vs)&&vF k fm&&Ac k fm r.ak&&Ad k fm a then
     ad (⟨g5 d r c.sl,Kt fm a c.mem,c.nx,c.gd⟩,l,(bF (i::args)++cX (ids++fm.map (·.1)),.s d::(cX (fm.map (·.1))++cX (a.map (·.1)))))
    else none
   |none=>none))
 |none=>none
def F5{c:Type}(a:Y):∀(l m:V (Y×c)),o a (l++m)=match o a l with|some x=>ad x|none=>o a m
 |[],m=>rfl
 | (t,v)::l,m=>by
  simp only[mc,o];split
  .rfl
  .exact F5 a l m
def PR(fm:V (Y×aN))(a:Y):∀l:V (Y×aN),o a (C2 fm l)=if(o a fm).isSome then none else o a l
 |[]=>by simp[C2,o]
 | (id,f)::r=>by
  simp only[C2];split
  .rename_i x d;rw[PR fm a r];by_cases c:id=a
   .subst c;simp[d]
   .simp[o,c]
  .rename_i d;simp only[o];by_cases c:id=a
   .subst c;simp[d]
   .simp only[c,bN];exact PR fm a r
def ahF(fm a mem:V (Y×aN))(c:Y):o c (Kt fm a mem)=match o c a with|some x=>ad x|none=>if(o c fm).isSome then none else o c mem:=by
 unfold Kt;split
 .rw[F5];cases o c a<;>simp[o]
 .rw[F5,PR];cases o c a<;>rfl
def Ku(mem:V (Y×aN)):∀(f:Y)(c:V Y)(a:V (Y×aN)),(∀g i,o g a=ad i->o g mem=ad i)->∀g i,o g (reach f mem c a)=ad i->o g mem=ad i
 |0,_,a,d=>by simpa[reach]using d
 |f+1,[],a,d=>by simpa[reach]using d
 |f+1,g::c,a,d=>by
  simp only[reach];split
  .exact Ku mem f c a d
  .split
   .rename_i i l;refine Ku mem f _ _ ?_;intro m n k;simp only[o]at k;split at k
    .rename_i p;subst p;cases k;exact l
    .exact d m n k
   .exact Ku mem f c a d
section
variable{P:bZ}{tt:TT}
def ahG(c:St) d k r fm a(f:Ad k fm a=af):(⟨g5 d r c.sl,Kt fm a c.mem,c.nx,c.gd⟩:St).kn=bH c.kn ((.s d,ad<|.v r)::(o9 a fm++kN k a)):=by
 funext key;cases key with
 |s t=>
  by_cases e:d=t
  .simp[St.kn,nM,bH,aE,e]
  .simp[St.kn,nM,bH,aE,e,v3,FR,Aa]
 |m j=>
  simp only[St.kn,bH,aE,reduceCtorEq,bN,v3,Kh,Ab,ahF]
  by_cases h:(o j fm).isSome=af
  .simp only[h,b9];cases o j a<;>rfl
  .simp only[h,bN,gY];cases l:o j a with
   |none=>by_cases g:k<=j<;>simp[g]
   |some b=>
    have g:k<=j:=by
     rcases(PE f j b l).1 with i|⟨n,i⟩
     .exact i
     .rw[i]at h;simp at h
    simp[g]
def Wr(a:V (Y×aN)):∀fm:V (Y×aN),fJ (o9 a fm)=cX (fm.map (·.1))
 |[]=>rfl
 | (id,c)::r=>by simp only[o9,fJ,hJ,cX];have:=Wr a r;simp only[fJ]at this;rw[this]
def PT(k:Y):∀(fm:V (Y×aN)),∀a∈fJ (kN k fm),a∈cX (fm.map (·.1))
 |[],a,c=>by simp[kN,fJ]at c
 | (id,d)::r,a,c=>by
  simp only[kN]at c;simp only[hJ,cX,bY];split at c
  .simp only[fJ,hJ,bY]at c;rcases c with c|c
   .exact .inl c
   .exact .inr<|PT k r a c
  .exact .inr<|PT k r a c
def ahH{t:F3}(u:∀f vs fm k r c v,t f vs fm k=ad (r,c,v)->CX P f vs fm k r c v){n k d:Y}(Q:d<n){p:bh}(hg:p.guard=none)(hd:p.dst=ad d){A}{args}{S}(W:p.op= .call ⟨.value A,args,S⟩){i B}{v}{ks}
  (h:PO t k d A args.toList i=ad (B,v,ks)):fL P n #[p] 0 i B k v ks:=by
 have w:(#[p]:Array bh)[0]? =ad p:=rfl
 unfold PO at h
 split at h
 .rename_i f vs C y;generalize X:reach 1000 i.mem (cY vs) []=fm at h;simp only at h;split at h
  .rename_i r c G z;split at h
   .rename_i s;simp only[cr]at s;let ⟨⟨⟨e,j⟩,q⟩,F⟩:=s;simp only[ar,bK]at h;obtain⟨rfl,rfl,rfl⟩:=h;have H:=u _ _ _ _ _ _ _ z;refine⟨_,_,ahz w hg hd Q W y H e j q F ?_,?_,ahG i d k r fm c F,H.le,?_,?_⟩
    .rw[<-X];exact Ku i.mem 1000 _ [] (λI b h=>by simp[o]at h)
    .intro M K;simp only[bg]at K;rcases K with((h|h)|h)|h
     .exact eG _ A M h
     .let ⟨x,_,h⟩:=iP.1 h;exact eG i x M h
     .exact k9 _ C M h
     .exact k9 _ _ M h
    .intro g L;simp only[dx,fe,bg]at L;have D:∀(l m:V Y),cX (l++m)=cX l++cX m:=by
      intro l m;induction l with
      |nil=>rfl
      |cons a l E=>simp only[mc,cX,E]
     rw[D];simp only[bg];rcases L with((h|h)|h)|h
     .exact .inl<|eo i (A::args.toList) g uc
     .exact .inl (eo i (A::args.toList) g<|by simp only[dx,kH,fe,bg];exact .inr h)
     .exact .inr<|.inl<|jY i C g h
     .exact .inr<|.inr<|jY i _ g h
    .intro g L;simp only[fJ,hJ,fe,bY,bg]at L⊢;rcases L with h|h|h
     .exact .inl h
     .refine .inr<|.inl ?_;rw[<-Wr c fm];exact h
     .exact .inr<|.inr<|PT k c g h
   .simp at h
  .simp at h
 .simp at h
end
end Go.El
