/- The engine, part 19: append. Own work; no condition. -/
import Derived.Deep.AppendSrc
import Derived.Deep.DeepAppendWide
import Derived.Test.YtceihkmakfdcnaaGreatH2
set_option linter.all false
set_option maxHeartbeats 16000000
set_option maxRecDepth 100000
open Bool renaming true->ae
open Go renaming Program->bS,Value->aO,World->cE,TypeId->dM,builtin->Jt,Oper->aX,Operand->dS
open Go.Act renaming put->gT
open Go.Builtin renaming firstCells->xS,lenOf->Vn,append_->vR,zeroCells->Js
open Go.Deferred renaming ofValue->FC
open Go.El renaming jt->S,vK->r
open Go.Instr renaming sliceBound->N',sliceAt->OM,sliceBounds->vE,slice->Vx,buildSlice->Ff
open Go.Oper renaming wp->mO,upon->mP
open Go.Region renaming wanted->hZ
open Go.Result renaming andThen->de
open Go.Sem renaming run_bind->cZ,run->jG
open Go.World renaming block_lt_of_cell?->B2
open List renaming length->Z,drop->az,take->h,replicate->bg
open Nat renaming ble->dT
open Option renaming some->ad
open Option.some renaming inj->Vw
open _root_ renaming Nat->Y,List->V,Option->ar
namespace Go.El
open Go Go.RowKit
section
variable{P:bS}{tt:TT}{n:Y}
def Vm{g}{d}{f}{v}(cq:cQ g (.S d f) v):
  ∃e:V aO,(∀W:cE,Sub g.H W->(xS d.n (Z f) v).run P W= .ok e.toArray W)/\Z e=Z f*d.n/\(∀i(cq:i<Z f),cV g.H d f[i] ((az (i*d.n) e).take d.n))/\∀u∈e,ns u=ae:=by
 obtain⟨a,w,rfl,G,I,p⟩:=cq
 by_cases r:f=[]
 .subst r;refine⟨[],λW _=>?_,ax,ax,ax⟩;cases a with
  |none=>simp[xS,pure]
  |some a=>simp[xS,loadCells,loadCellsFrom,pure]
 .rcases p with p|⟨b,off,rfl,p⟩
  .exact absurd p r
  .let e:=(List.range<|Z f*d.n).map λk=>(g.H b<|off+k).getD undef
   have q:Z e=Z f*d.n:=by simp[e]
   have l:∀i(C:i<Z f),∃m,Z m=d.n/\cV g.H d f[i] m/\(az (i*d.n) e).take d.n=m/\∀j(F:j<Z m),g.H b (off+(i*d.n+j))=ad m[j]:=by
    intro i C;let ⟨m,hl,s,hc⟩:=p i C;have K:(i+1)*d.n<=Z f*d.n:=ef _ O;rw[gk,iT]at K;refine⟨m,hl,s,?_,λj F=>by rw[<-pW];exact hc j F⟩;apply sK
    .simp[e];omega
    .intro j y L;simp only[pX,sx,e,zY,Jq];rw[<-pW,hc j L];rfl
   have o:∀k(Q:k<Z e),∃v,g.H b (off+k)=ad v/\e[k]=v/\ns v=ae:=by
    intro k Q;have t:=d.zh;have U:k<Z f*d.n:=O;have z:k/d.n<Z f:=xO (by rw[gO];exact U);have J:k%d.n<d.n:=fg _ t;let ⟨m,hl,s,x,hc⟩:=l (k/d.n) z;have X:k/d.n*d.n+k%d.n=k:=by rw[gO];exact qh k d.n
    have:=hc (k%d.n) O;rw[X]at this;refine⟨_,this,?_,?_⟩
    .simp only[e,zY,Jq,this,pS]
    .exact(zj (g:=g) d _ _ s).one (B3 d _) _<|si _
   refine⟨e,λW B=>?_,q,λi C=>?_,λu A=>?_⟩
   .simp only[xS,loadCells];have:=run_loadCellsFrom (P:=P) (W:=W) b (Z f*d.n) 0 off e #[] q (λj F=>by let ⟨v,D,c,_⟩:=o j F;rw[iR,B _ _ _ D,c]);simpa using this
   .let ⟨m,hl,s,x,_⟩:=l i C;rw[x];exact s
   .obtain⟨k,Q,rfl⟩:=Jr A;let ⟨v,_,c,E⟩:=o k Q;rw[c];exact E
def agk{W}{t v ty x H}{d:TypeInfo}(l:P.underlying t=ad (.slice x))(o:P.underlying v=ad (.slice H))(L:P.info? x=ad d){f a e}{p}{m}(Q:(Vn p).run P W= .ok m W)
 {g vs}{B}(q:(xS d.size m p).run P W= .ok g.toArray W) (U:W.heap[f]? =ad (.cells vs.toArray B (0,0))) (i:∀u∈g,ns u=ae) (s:a+m<=e) (F:a*d.size+Z g<=Z vs):
  (vR #[t,v] ty #[.slice (ad ⟨f,0,none⟩) a e,p]).run P W= .ok (.slice (ad ⟨f,0,none⟩) (a+m) e) (iH W f (cM vs g<|a*d.size) B):=by
 have k:=zC (P:=P) f g W vs (a*d.size) 0 U O i
 simp only[iR]at k
 unfold vR
 simp only[tW,l3,vC]
 rw[cZ,run_underlying l]
 simp only[de]
 rw[cZ,run_sizeOf L]
 simp only[de]
 rw[cZ,run_underlying o]
 simp only[de,pure_bind,hY,bL,Cn,b7]
 rw[cZ,Q]
 simp only[de,s,b7]
 rw[cZ,q]
 simp only[de,k4,eH]
 rw[cZ,k]
 rfl
def Fh(e:Y->Prop)(g:Gh)(W:cE)(f:dM)(d:ET)(xs:V d.den)(v:aO):Prop:=
 (v= .slice none 0 0/\xs=[])\/∃b a,∃vs:V aO,v= .slice (ad ⟨b,0,none⟩) (Z xs) a/\W.heap[b]? =ad (.cells vs.toArray f (0,0))/\
   Z vs=a*d.n/\Z xs<=a/\Z xs*d.n<=140737488355328/\(∀i(h:i<Z xs),cV g.H d xs[i] ((az (i*d.n) vs).take d.n))/\e b/\∀o,g.H b o=none
def Vo{a:Type}(vs:V a) n i m(d:i<m):h n ((h (m*n) vs).drop<|i*n)=(az (i*n) vs).take n:=by have e:(i+1)*n<=m*n:=ef _ d;rw[gk,iT]at e;rw[List.drop_take,List.take_take];congr 1;omega
def agl{d:Type}(a vs:V d) n m i(e:Z a=m*n)(f:m<=i):h n (az (i*n)<|a++vs)=(az ((i-m)*n) vs).take n:=by have g:m*n<=i*n:=ef _ f;rw[List.drop_append,sB O,sA,e,Nat.sub_mul]
def Vp{d:Type}(a vs:V d) n m i(g:Z a=m*n)(e:i<m):h n (az (i*n)<|a++vs)=(az (i*n) a).take n:=by have f:(i+1)*n<=m*n:=ef _ e;rw[gk,iT]at f;rw[zE O,vG bV]
def Vq{H}{a}{xs d}{f g rest}(k:Z f=Z xs*a.n)(l:Z g=Z d*a.n)(m:∀i(e:i<Z xs),cV H a xs[i] ((az (i*a.n) f).take a.n))(o:∀i(e:i<Z d),cV H a d[i] ((az (i*a.n) g).take a.n)):
  ∀i(e:i<Z (xs++d)),cV H a (xs++d)[i] (h a.n<|az (i*a.n)<|f++g++rest):=by
 intro i p
 rw[List.getElem_append]
 split
 .rename_i e;rw[lD,Vp f _ a.n (Z xs) i k e];exact m i e
 .rename_i e;simp only[ix]at p;rw[lD,agl f _ a.n (Z xs) i k O,Vp g _ a.n (Z d) _ l O];exact o _ O
def agm{zZ:Y->Prop}{g}{W}(q:Sub g.H W){L E2 t1 t2 ty}{p}{xs m}{v cp}{f:TypeInfo}{fV}(Cp:P.underlying t1=ad (.slice L))(iv:P.underlying t2=ad (.slice E2))(Q:P.info? L=ad f)(hz:f.zero=ad fV)(sL:fV.cells.size=f.size)(U:f.size=p.n)
  (hv:Fh zZ g W L p xs v) (hy:cQ g (.S p m) cp) (hb:((Z xs+Z m)+(Z xs+Z m)/4+192)*f.bytes<=281474976710656) (lE:(Z xs+Z m)*p.n<=140737488355328) (hN:zZ W.heap.size):
  ∃v' s,(vR #[t1,t2] ty #[v,cp]).run P W= .ok v' s/\Fh zZ g s L p (xs++m) v'/\W.heap.size<=s.heap.size/\(∀k,k<W.heap.size->cz v≠ad k->s.heap[k]? =W.heap[k]?)/\s.os=W.os/\s.tape=W.tape/\s.output=W.output/\Sub g.H s/\(∀k,cz v'=ad k->W.heap.size<=k\/cz v=ad k):=by
 let ⟨us,w,x,I,M⟩:=Vm (P:=P) hy
 have B:Sub g.H W.drew:=q
 have X:=w W q
 have R:=w W.drew B
 have c:∀o,g.H W.heap.size o=none:=by
  intro o;cases hv:g.H W.heap.size o with
  |none=>rfl
  |some v=>
   have:=B2 W _<|q _ _ _ hv
   simp at this
 have C:∀w':cE,(Vn cp).run P w'= .ok (Z m) w':=by obtain⟨a,F,rfl,_⟩:=hy;intro w';rfl
 have Fg:=p.zh
 have K:∀(base:ar Addr)(d:Y)(l:V aO),v= .slice base (Z xs) d->(xS f.size (Z xs)<|.slice base (Z xs) d).run P W.drew= .ok l.toArray W.drew->Z l=Z xs*p.n->(∀i(cq:i<Z xs),cV g.H p xs[i] ((az (i*p.n) l).take p.n))->d<Z xs+Z m->
   ∃v' s,(vR #[t1,t2] ty #[v,cp]).run P W= .ok v' s/\Fh zZ g s L p (xs++m) v'/\W.heap.size<=s.heap.size/\(∀k,k<W.heap.size->cz v≠ad k->s.heap[k]? =W.heap[k]?)/\s.os=W.os/\s.tape=W.tape/\s.output=W.output/\Sub g.H s/\(∀k,cz v'=ad k->W.heap.size<=k\/cz v=ad k):=by
  intro base d l hv hold Fi hor gN
  subst hv
  have xT:Src P f.size t2 cp (Z m) us W:=⟨.inl ⟨_,iv⟩,C,by rw[U];exact X,by rw[U];exact R,by rw[U];exact x,λu hu=>by have:=M u hu;revert this;cases u<;>simp[ns,Value.oneCell']⟩
  have D:((Z xs+Z m:Y):Int)<=9223372036854775807:=by have:(Z xs+Z m)*1<=(Z xs+Z m)*p.n:=ia _ Fg;omega
  have hr:=run_append_grow_src (P:=P) W t1 t2 ty L f fV Cp Q hz base (Z xs) d l hold cp (Z m) us xT gN D<|growslice_fits_wide gN hb
  have sy:=grownCap_ge W (Z xs+Z m) d L
  refine⟨_,_,hr,.inr ⟨W.heap.size,grownCap W (Z xs+Z m) d L,l++us++(Js fV.cells<|grownCap W (Z xs+Z m) d L-(Z xs+Z m)).toList,ax,by rw[show W.heap.size=W.drew.heap.size from J,heap_alloc_new];congr 2;apply BY;simp,?_,by simpa using sy,by simpa using lE,Vq Fi x hor I,hN,c⟩,ax,?_,J,J,J,?_,?_⟩
  .simp only[ix,Fi,x,Fj,size_zeroCells,sL,U,<-gk];congr 1;omega
  .intro k G _;exact heap_alloc_old W.drew _ G
  .exact zG B _
  .intro k G;simp only[cz,au]at G;exact .inl O
 rcases hv with⟨rfl,rfl⟩|⟨b,F,vs,rfl,hh,r,hle,ar8,hr,hNb,hH⟩
 .by_cases Vr:m=[]
  .subst Vr;refine⟨.slice none 0 0,W,?_,.inl ⟨J,J⟩,aW _,λ_ _ _=>rfl,J,J,J,q,by simp[cz]⟩;have h0:us=[]:=fE (by simpa using x);subst h0;rw[<-U]at X;simp[vR,run_underlying Cp,run_underlying iv,sizeOf,typeInfo,Q,C];have h3:(xS f.size 0 cp).run P W= .ok #[] W:=by simpa using X
   rw[h3];rfl
  .have:=cv.2 Vr;exact K none 0 [] J (run_firstCells_none W.drew _ 0 0 0) ax ax (by simpa using this)
 .by_cases t:Z xs+Z m<=F
  .have kZ:b<W.heap.size:=(fT.1 hh).1;have A:Z xs*f.size+Z us<=Z vs:=by rw[x,r,U,<-gk];exact ef _ t
   have iS:=agk (P:=P) (ty:=ty) Cp iv Q (C W) (by rw[U];exact X) hh M t A;refine⟨_,_,iS,.inr ⟨b,F,cM vs us<|Z xs*f.size,ax,xD kZ,by rw[xF _ _ _ A];exact r,by simpa using t,by simpa using lE,?_,hNb,hH⟩,zF,?_,J,J,J,zD q hH,?_⟩
   .unfold cM;rw[U];refine Vq ?_ x (λi Q=>?_) I
    .simp only[fQ];rw[r];have:=ef p.n hle;omega
    .rw[Vo _ _ _ _ Q];exact hr i Q
   .intro k _ G;exact xE (λe=>G<|by simp[cz,e])
   .intro k G;exact .inr G
  .have ar9:=ef p.n hle;have Fk:(h (Z xs*p.n) vs).length=Z xs*p.n:=by rw[fQ,r];omega
   refine K (ad ⟨b,0,none⟩) F (h (Z xs*p.n) vs) J ?_ Fk (λi Q=>by rw[Vo _ _ _ _ Q];exact hr i Q) O;rw[U];refine run_firstCells_some W.drew p.n (Z xs) ⟨b,0,none⟩ (Z xs) F _ Fk ?_;intro j u hj;let ⟨BL,tU⟩:=rj.1 hj;simp only[pX]at tU;simp only[k4,eH];have Fl:W.drew.heap[b]? =ad (.cells vs.toArray L (0,0)):=hh;rw[tZ Fl j (by simp at BL;omega),tU]
def Cq{a:Act}{o}{f:Builtin}{args}{d}(e:o.op= .call ⟨.builtin f,args,d⟩){W W'}{v}(g:∀i,(Jt f d o.type i<|args.map a.eval).run P W= .ok (.value v) W'):(execOp a.eval o).run P W= .ok (.value v) W':=by rw[execOp,e];simp only[resolve,pure_bind,invoke];exact g _
def sM:V Y->V (Key×ar Info)
 |[]=>[]
 |id::a=>(.m id,none)::sM a
def z0:V Y->V (Y×aE)->V (Y×aE)
 |[],l=>l
 |id::a,l=>z0 a<|rv id l
def OJ ids t:aC (sM ids) (.s t)=none:=by
 induction ids with
 |nil=>rfl
 |cons id r a=>simp[sM,aC,a]
def z1(a:Y):∀(d:V Y),aC (sM d) (.m a)=if a∈d then ad none else none
 |[]=>by simp[sM,aC]
 |id::f=>by
  simp only[sM,aC,Key.m.injEq,bX];by_cases g:id=a
  .simp[g]
  .rw[w g,z1 a f];by_cases h2:a∈f
   .simp[h2]
   .have:¬(a=id\/a∈f):=by rintro(e|e);exact g e.symm;exact h2 e
    rw[w h2,w this]
def Vs(a:Y):∀(d:V Y)(l:V (Y×aE)),S a (z0 d l)=if a∈d then none else S a l
 |[],l=>by simp[z0]
 |id::g,l=>by
  simp only[z0];rw[Vs a g,zI];by_cases f:id=a
  .simp[f]
  .have:¬(a=id):=λe=>f e.symm
   simp[f,this]
def agp(a:St) d new ids x f:(⟨(d,x)::a.sl,(new,f)::z0 ids a.mem,a.nx,a.gd⟩:St).kn=bq a.kn ((.s d,ad<|.v x)::(.m new,ad<|.b f)::sM ids):=by
 funext k;cases k with
 |s t=>
  by_cases e:d=t
  .simp[St.kn,S,bq,aC,e]
  .simp[St.kn,S,bq,aC,e,OJ]
 |m j=>
  by_cases e:new=j
  .simp[St.kn,S,bq,aC,e]
  .simp only[St.kn,S,bq,aC,e,reduceCtorEq,Key.m.injEq,bL,Vs,z1];split<;>simp
def Vt(bW:b8 P tt=ae){ops}{i}{o:aX}{d:Y}(ho:ops[i]? =ad o)(hg:o.guard=none)(hd:o.dst=ad d){n}(di:d<n){x L}{t1 t2}(bU:o.op= .call ⟨.builtin .append,#[x,L],#[t1,t2]⟩)
 {q}{ids}{be E2:dM} {B}{xs ys:V B.den} (hx:(∃f,ids=[f]/\q.ev x=ad (.c<|.X f)/\S f q.mem=ad (.vec be B xs))\/(ids=[]/\q.ev x=ad (.c<|.V<|.slice none 0 0)/\xs=[]))
  (hy:q.ev L=ad (.c<|.S B ys)) {ti Vu ei:TI} (mN:S t1 tt=ad ti) (U:ti.kind= .sl be) (agq:S t2 tt=ad Vu) (OD:Vu.kind= .sl E2) (ny:S be tt=ad ei) (rk:ei.size=B.n) (Ju:Z ei.zero=B.n)
  (hb:((Z xs+Z ys)+(Z xs+Z ys)/4+192)*ei.bytes<=281474976710656) (lE:(Z xs+Z ys)*B.n<=140737488355328) (l:Y):
  k5 P n ops i q ⟨(d,.c<|.X l)::q.sl,(l,.vec be B<|xs++ys)::z0 ids q.mem,q.nx,q.gd⟩ l (bD [x,L]++cX ids,.s d:: .m l::cX ids):=by
 refine⟨cC q x++cC q L++ff q ids,(.s d,ad<|.v<|.c<|.X l)::(.m l,ad<|.b<|.vec be B<|xs++ys)::sM ids,?_,?_,agp q d l ids _ _,?_,?_⟩
 .intro F kC Q known σ g W a K w aN A hK;have sO:cQ g (.S B ys) (a.eval L):=du aN q L _ hy<|λM bZ=>A M dR;have hv:Fh F.N g W be B xs (a.eval x)/\(∀k,cz (a.eval x)=ad k->∃f b,ids=[f]/\σ (.m f)=ad (.b b)/\cz (g.γ f)=ad k):=by
   rcases hx with⟨f,rfl,hx,hl⟩|⟨rfl,hx,rfl⟩
   .have vS:a.eval x=g.γ f:=du aN q x _ hx<|λM bZ=>A M dR;have D:σ (.m f)=ad (.b<|.vec be B xs):=A (.m f,.b<|.vec be B xs) pY;rw[vS];exact⟨aN.cL f _ D,λk U=>⟨f,_,J,D,U⟩⟩
   .have vS:a.eval x= .slice none 0 0:=du aN q x _ hx<|λM bZ=>A M dR;rw[vS];exact⟨.inl ⟨J,J⟩,by simp[cz]⟩
  let ⟨hv,OK⟩:=hv;have h1:=(dZ bW mN).kind;rw[U]at h1;have h2:=(dZ bW agq).kind;rw[OD]at h2;let ⟨inf,ud,rC,Cs,z,vT,vH⟩:=(dZ bW ny).info;have sL:z.cells.size=inf.size:=by
   have:Z z.cells.toList=Z (ei.zero.map ZV.eG):=by rw[vH]
   simp only[Fj,cR]at this;omega
  let ⟨v',W',iS,agr,jS,ags,e1,e2,e3,vU,Jv⟩:=agm (P:=P) (ty:=o.type) aN.sub h1 h2 ud vT sL O hv sO (by rw[Cs];exact hb) lE<|.inl aN.below.size;unfold wpOp;simp only[ho,hZ,hg,b7];refine .inl ?_;unfold mO;rw[Cq bU (W':=W') (v:=v') (by have e:(#[x,L]:Array dS).map a.eval= #[a.eval x,a.eval L]:=ax;intro cs;rw[e];simp only[Jt,cZ,iS,de];rfl)];simp only[mP,hd];have vV:d<a.tmps.size:=l0;let I:Gh:=⟨g.H,λf=>if f=l then v' else g.γ f⟩;have Ct:fP known g I:=⟨cD.refl _,λf p=>by
   have:f≠l:=λe=>w<|e▸p
   simp[I,this]⟩
  have R:∀f∈ids,∃b,σ (.m f)=ad (.b b):=by
   intro f p;rcases hx with⟨nz,rfl,hx,hl⟩|⟨rfl,_⟩
   .simp only[iU]at p;subst p;exact⟨_,A (.m f,.b<|.vec be B xs) pY⟩
   .cases p
  have z2:∀f∈ids,f≠l:=λf p e=>by let ⟨b,hb⟩:=R f p;exact w<|e▸aN.dQ _ _ hb
  refine hK I _ _<|aN.step (chg:=λj=>j∈ids) (g':=I) ⟨Ct,λ_ _ _=>rfl,vU,jS,?_,e1,e2,e3⟩ _ l w mL aN.defers ?_ ?_ ?_ ?_ ?_ ?_
  .intro k U G;refine ags k U<|λe=>?_;obtain⟨f,b,rfl,D,kH⟩:=OK k e;exact G f ax kH
  .intro t ht;have G:d≠t:=rq;simp[gT,lC G]
  .intro f p;refine⟨?_,R f p⟩;simp only[aC,reduceCtorEq,bL,Key.m.injEq,z1,p,b7];split<;>simp
  .intro t u ht;simp only[aC]at ht;split at ht
   .rename_i e;simp only[Key.s.injEq]at e;simp only[au,Info.v.injEq]at ht;subst e;subst ht;simp[gT,vV,bA,cQ,I]
   .simp[OJ]at ht
  .intro f b ht;simp only[aC,reduceCtorEq,bL]at ht;split at ht
   .rename_i e;simp only[Key.m.injEq]at e;subst e;simp only[au,Info.b.injEq]at ht;subst ht;have hr:Fh F.N I W' be B (xs++ys) (I.γ l):=by
     have e:I.γ l=v':=by simp[I]
     rw[e];exact agr
    refine⟨hr,.inr ⟨J,λk U=>?_⟩⟩;simp only[I,b7]at U;rcases Jv k U with h|h
    .exact .inl h
    .let ⟨f,b,z3,D,kH⟩:=OK k h;refine .inr ⟨f,b,D,?_,kH⟩;have G:=z2 f (by simp[z3]);simp only[aC,reduceCtorEq,bL,Key.m.injEq,Ne.symm G,z1];simp[z3]
   .rw[z1]at ht;split at ht<;>simp at ht
  .intro k L ht;simp only[aC]at ht;split at ht
   .simp only[au]at ht;subst ht;intro f p;simp[Info.ak,AV.ak,C.ak]at p;exact .inr p
   .split at ht
    .simp only[au]at ht;subst ht;intro f p;simp[Info.ak,aE.ak]at p
    .cases k with
     |s t=>simp[OJ]at ht
     |m j=>rw[z1]at ht;split at ht<;>simp at ht
  .intro f L ht;simp only[aC,reduceCtorEq,bL]at ht;split at ht
   .rename_i e;simp only[Key.m.injEq]at e;exact .inr e.symm
   .rw[z1]at ht;split at ht<;>simp at ht
 .intro M bZ;rcases aY.1 bZ with h|h
  .rcases aY.1 h with h|h
   .exact dV _ x M h
   .exact dV _ L M h
  .exact jV _ ids M h
 .intro k U;simp only[dq,fo,aY]at U;rcases U with(h|h)|h
  .exact dY _<|ew q [x,L] k uf
  .exact dY _<|ew q [x,L] k vI
  .exact fU _<|jW q ids k h
 .have hd:∀ids:V Y,fD (sM ids)=cX ids:=by
   intro ids;induction ids with
   |nil=>rfl
   |cons f r ih=>simp only[sM,fD,gR,cX]at ih⊢;rw[ih]
  intro k U;have:fD ((.s d,ad<|.v<|.c<|.X l)::(.m l,ad<|.b<|.vec be B<|xs++ys)::sM ids)= .s d:: .m l::cX ids:=by rw[<-hd ids];rfl
  rw[<-this];exact U
def agt{g}{a}{k i}{d}{x F}{t1 t2 ty:dM}{pos}{H}{os}{q}{mem}{t}{u}{ks}{Q:St->Prop}(L:b8 P tt=ae)
 {e}{v E2:dM} {f}{xs l}(hx:St.ev ⟨q,mem,t,u⟩ x=ad (.c<|.X e)) (hl:S e mem=ad (.vec v f xs))
  (hy:St.ev ⟨q,mem,t,u⟩ F=ad (.c<|.S f l)) {ti o B}(U:S t1 tt=ad ti) (hk:ti.kind= .sl v) (p:S t2 tt=ad o) (W:o.kind= .sl E2) (ny:S v tt=ad B) (rk:B.size=f.n) (Ju:Z B.zero=f.n)
  (hb:((Z xs+Z l)+(Z xs+Z l)/4+192)*B.bytes<=281474976710656) (lE:(Z xs+Z l)*f.n<=140737488355328)
  (cq:RG P n g a k (i+1) os ⟨(d,.c<|.X<|1000000*k+1000*i)::q,(1000000*k+1000*i,.vec v f<|xs++l)::rv e mem,t,u⟩ (gU a ks (bD [x,F]++cX [e],[.s d,.m<|1000000*k+1000*i,.m e])) Q) (di:Nat.blt d n=ae:=by rfl):
  RG P n g a k i (⟨ad d,.call ⟨.builtin .append,#[x,F],#[t1,t2]⟩,ty,pos,H,none⟩::os) ⟨q,mem,t,u⟩ ks Q:=
 mR (λC=>Vt L C J J (c9 di) J (.inl ⟨e,J,hx,hl⟩) hy U hk p W ny rk Ju hb lE _) (mT cq)
def agu{e}{a}{f i}{d}{x v}{t1 t2 ty:dM}{pos}{B}{os}{p}{mem}{q}{t}{ks}{Q:St->Prop}(F:b8 P tt=ae)
  {H E2:dM} {g}{k}(hx:St.ev ⟨p,mem,q,t⟩ x=ad (.c<|.V<|.slice none 0 0))
  (hy:St.ev ⟨p,mem,q,t⟩ v=ad (.c<|.S g k)) {ti l u}(L:S t1 tt=ad ti) (hk:ti.kind= .sl H) (o:S t2 tt=ad l) (U:l.kind= .sl E2) (W:S H tt=ad u) (rk:u.size=g.n) (Ju:Z u.zero=g.n)
  (hb:(Z k+Z k/4+192)*u.bytes<=281474976710656) (lE:Z k*g.n<=140737488355328)
  (cq:RG P n e a f (i+1) os ⟨(d,.c<|.X<|1000000*f+1000*i)::p,(1000000*f+1000*i,.vec H g k)::mem,q,t⟩ (gU a ks (bD [x,v],[.s d,.m<|1000000*f+1000*i])) Q) (di:Nat.blt d n=ae:=by rfl):
  RG P n e a f i (⟨ad d,.call ⟨.builtin .append,#[x,v],#[t1,t2]⟩,ty,pos,B,none⟩::os) ⟨p,mem,q,t⟩ ks Q:=
 mR (λC=>Vt (xs:=[]) (ids:=[]) F C J J (c9 di) J (.inr ⟨J,hx,J⟩) hy L hk o U W rk Ju sC (by simpa using lE) _) (mT<|by simpa[cX,z0]using cq)
end
def Jw(a:TT)(t:Y):ar Y:=match S t a with
 |some d=>(match d.kind with
  | .sl e=>(match S e a with|some f=>ad f.size|none=>none)
  |_=>none)
 |none=>none
def Jx(a:TT)(t:Y)(x i:AV):ar (AV×Pr):=match x,i with
 | .c (.L id off len _),.c (.I _ k)=>(match Jw a t with
  |some sz=>ad (.c<|.P id<|off+Int.toNat k*sz,.and (.le 0 k)<|.lt k len)
  |none=>none)
 |_,_=>none
def vW(m:Y):ar AV->Y->ar (Y×Pr)
 |none,d=>ad (d,.t)
 |some (.c<|.I _ k),_=>ad (Int.toNat k,.and (.le 0 k)<|.le k m)
 |_,_=>none
def OL(f:TT)(t:Y)(x:AV)(e a d:ar AV):ar (AV×Pr):=match x,Jw f t with
 | .c (.L id off len<|ad c),ad sz=>(match vW c d c with
  |some (m,p1)=>(match(if d.isSome&& !a.isSome then none else vW m a len)with
   |some (h,g)=>(match vW h e 0 with
    |some (l,i)=>ad (.c<|.L id (if m=l then off else off+l*sz) (h-l)<|ad<|m-l,.an p1<|.an g i)
    |none=>none)
   |none=>none)
  |none=>none)
 | .c (.L id off len none),ad _=>(match e,d with
  |none,none=>(match vW len a len with
   |some (h,p)=>ad (.c<|.L id off h none,p)
   |none=>none)
  |_,_=>none)
 | .c (.V<|.slice none 0 0),ad _=>(match d,vW 0 a 0 with
  |none,ad (h,p)=>(match vW h e 0 with
   |some (_,q)=>ad (.c<|.V<|.slice none 0 0,.an p q)
   |none=>none)
  |_,_=>none)
 |_,_=>none
def Jy(a:TT)(t:Y)(x:AV):ar AV:=match S t a with
 |some d=>(match d.kind with
  | .sl _=>(match x with
   | .c (.L _ _ len _)=>ad<|.c<|.I .i64 len
   |_=>none)
  |_=>none)
 |none=>none
def Vv(a x d:ar AV):ar (AV×Pr):=match a,x,d with
 |some (.c<|.B ae),ad v,_=>ad (v,.t)
 |some (.c<|.B false),_,ad v=>ad (v,.t)
 |_,_,_=>none
def Cu(d:TT)(a:St):Op->ar (AV×Pr)
 | .pick f x g=>Vv (a.ev f) (a.ev x)<|a.ev g
 | .indexAddr t x i=>(match a.ev x,a.ev i with|some v,ad k=>Jx d t v k|_,_=>none)
 | .slice t x n o p=>(match a.ev x,xB a n,xB a o,xB a p with|some v,ad l,ad q,ad m=>OL d t v l q m|_,_,_,_=>none)
 | .call ⟨.builtin .len,args,e⟩=>(match args.toList,e.toList with
  |[x],[t]=>(match a.ev x with|some v=>(match Jy d t v with|some u=>ad (u,.t)|none=>none)|none=>none)
  |_,_=>none)
 |_=>none
section
variable{P:bS}{tt:TT}{g:Gh}{W:cE}
def Jz(d:b8 P tt=ae){t n}(a:Jw tt t=ad n):∃e i,P.underlying t=ad (.slice e)/\P.info? e=ad i/\i.size=n:=by
 refine BU d ?_;unfold Jw at a;unfold vD;split at a
 .rename_i p f;split at a
  .rename_i e k;split at a
   .rename_i l m;have o:l.size=n:=Vw a;simp[f,k,m,o]
   .simp at a
  .simp at a
 .simp at a
def agv(m:b8 P tt=ae){t}{x i n}{p}(a:Jx tt t x i=ad (n,p))(U:p){v u}(L:bA g x v)(hu:bA g i u):(∃Q,(Instr.indexAt t v u).run P W= .ok Q W/\bA g n Q)/\∀o∈n.ak,o∈x.ak:=by
 unfold Jx at a;split at a
 .rename_i o f l q X k;split at a
  .rename_i sz s;simp only[au,bG]at a;obtain⟨rfl,rfl⟩:=a;let ⟨e,i,B,j,r⟩:=Jz m s;have F:u= .int X k:=hu;subst F;have d:0<=k/\k<(l:Int):=U;have H:∃b c,cz (g.γ o)=ad b/\v= .slice (ad ⟨b,f,none⟩) l c:=by
    cases q with
    |some c=>let ⟨b,K,h2⟩:=L;exact⟨b,c,K,h2⟩
    |none=>let ⟨w,b,c,K,h2,_⟩:=L;subst w;exact⟨b,c,by rw[K];rfl,h2⟩
   obtain⟨b,c,A,rfl⟩:=H;refine⟨⟨.pointer<|ad ⟨b,f+Int.toNat k*sz,none⟩,?_,b,A,J⟩,pV⟩;simp only[Instr.indexAt,asIntOf,cZ,run_underlying B,de];simp[d,run_sizeOf j,r,k4]
  .simp at a
 .simp at a
def vX{m}{x}{d e}{p}(a:vW m x d=ad (e,p))(n:p){v}(f:xC g x v)(code:BoundsCode):
  (x=none/\v=none/\e=d)\/(∃u,x.isSome=ae/\v=ad u/\e<=m/\(N' u m code).run P W= .ok e W):=by
 unfold vW at a
 split at a
 .simp only[au,bG]at a;cases v with
  |none=>exact .inl ⟨J,J,a.1.symm⟩
  |some u=>exact f.elim
 .rename_i o k;simp only[au,bG]at a;obtain⟨rfl,rfl⟩:=a;cases v with
  |none=>exact f.elim
  |some u=>
   have i:u= .int o k:=f
   subst i
   have l:0<=k/\k<=(m:Int):=n
   refine .inr ⟨_,J,J,O,?_⟩
   simp[N',asIntOf,l,jG,pure]
 .simp at a
def agw(bW:b8 P tt=ae){t}{x cp}{lo hi mx}{p}(a:OL tt t x lo hi mx=ad (cp,p))(hp:p){v}{vl vh vm}(hv:bA g x v)
  (hl:xC g lo vl) (hh:xC g hi vh) (hm:xC g mx vm):
  (∃fV,(OM t v vl vh vm).run P W= .ok fV W/\bA g cp fV)/\∀id∈cp.ak,id∈x.ak:=by
 unfold OL at a
 split at a
 .rename_i id D k c sz s;let ⟨e,i,B,F,R⟩:=Jz bW s;split at a
  .rename_i m p1 H;split at a
   .rename_i f p2 o;split at a
    .rename_i l p3 E;simp only[au,bG]at a;obtain⟨rfl,rfl⟩:=a;let ⟨G,S⟩:=Pr.ED hp;let ⟨K,I⟩:=Pr.ED S;obtain⟨b,EA,rfl⟩:=hv;have L:¬(mx.isSome=ae/\hi.isSome=false):=by intro T;rw[ao (by simp[T.1,T.2])]at o;cases o
     have j:vW m hi k=ad (f,p2):=by rw[w (by intro T;simp only[cw,E5]at T;exact L T)]at o;exact o
     refine⟨⟨.slice (if m=l then ad ⟨b,D,none⟩else ad ⟨b,D+l*sz,none⟩) (f-l)<|m-l,?_,b,EA,?_⟩,pV⟩
     .have Q:(vE ae k c vl vh vm).run P W= .ok (l,f,m) W:=by
       unfold vE;rcases vX (P:=P) (W:=W) H G hm .slice3Acap with⟨V,rfl,rfl⟩|⟨u1,V,rfl,_,Y⟩
       .rcases vX (P:=P) (W:=W) j K hh .sliceAcap with⟨X,rfl,rfl⟩|⟨u2,X,rfl,_,M⟩
        .rcases vX (P:=P) (W:=W) E I hl .sliceB with⟨U,rfl,rfl⟩|⟨u3,U,rfl,_,Z⟩<;>simp[*]
        .rcases vX (P:=P) (W:=W) E I hl .sliceB with⟨U,rfl,rfl⟩|⟨u3,U,rfl,_,Z⟩<;>simp[*]
       .rcases vX (P:=P) (W:=W) j K hh .slice3B with⟨X,rfl,rfl⟩|⟨u2,X,rfl,_,M⟩
        .exact absurd ⟨V,by simp[X]⟩ L
        .rcases vX (P:=P) (W:=W) E I hl .slice3C with⟨U,rfl,rfl⟩|⟨u3,U,rfl,_,Z⟩<;>simp[*]
      simp only[OM,cZ,run_underlying B,de,Vx,Q,run_sizeOf F,R];split<;>simp[pure,k4]
     .split<;>rfl
    .simp at a
   .simp at a
  .simp at a
 .rename_i id D k sz s;let ⟨e,i,B,F,R⟩:=Jz bW s;split at a
  .split at a
   .rename_i f p1 H;simp only[au,bG]at a;obtain⟨rfl,rfl⟩:=a;obtain⟨h0,b,c,hγ,rfl,hle⟩:=hv;subst h0;have sH:vl=none:=by cases vl with|none=>rfl|some _=>exact hl.elim
    have N:vm=none:=by cases vm with|none=>rfl|some _=>exact hm.elim
    subst sH N;have r:=N9 (P:=P) (W:=W) (n:=k) (x:=hi) (d:=k) (h:=f) (p:=p1) (by rw[<-H];cases hi with|none=>rfl|some q=>cases q with|c q=>cases q<;>rfl|_=>rfl) hp hh c hle .sliceAcap;have A:f<=k:=by rcases r with⟨_,_,e⟩|⟨_,_,a,_⟩<;>omega
    refine⟨⟨.slice (ad ⟨b,0,none⟩) f c,?_,J,b,c,hγ,J,O⟩,pV⟩;have Q:(vE ae k c none vh none).run P W= .ok (0,f,c) W:=by unfold vE;rcases r with⟨_,rfl,rfl⟩|⟨u,rfl,_,Y⟩<;>simp[*]
    simp only[OM,cZ,run_underlying B,de,Vx,Q,run_sizeOf F,R];simp[pure,k4]
   .simp at a
  .simp at a
 .rename_i sz s;let ⟨e,i,B,F,R⟩:=Jz bW s;split at a
  .rename_i f p1 H;split at a
   .rename_i l p2 o;simp only[au,bG]at a;obtain⟨rfl,rfl⟩:=a;let ⟨G,K⟩:=Pr.ED hp;have sn:v= .slice none 0 0:=hv;subst sn;have N:vm=none:=by cases vm with|none=>rfl|some _=>exact hm.elim
    subst N;refine⟨⟨.slice none 0 0,?_,J⟩,pV⟩;have Q:(vE ae 0 0 vl vh none).run P W= .ok (0,0,0) W:=by
     unfold vE;rcases vX (P:=P) (W:=W) H G hh .sliceAcap with⟨_,rfl,rfl⟩|⟨u1,_,rfl,ON,Y⟩
     .rcases vX (P:=P) (W:=W) o K hl .sliceB with⟨_,rfl,rfl⟩|⟨u2,_,rfl,A,M⟩
      .simp[*]
      .have:l=0:=by omega
       subst this;simp[*]
     .have:f=0:=by omega
      subst this;rcases vX (P:=P) (W:=W) o K hl .sliceB with⟨_,rfl,rfl⟩|⟨u2,_,rfl,A,M⟩
      .simp[*]
      .have:l=0:=by omega
       subst this;simp[*]
    simp only[OM,cZ,run_underlying B,de,Vx,Q,run_sizeOf F,R];simp[pure]
   .simp at a
  .simp at a
 .simp at a
def agx(f:b8 P tt=ae){t r:Y}{x i:AV}(d:Jy tt t x=ad i){v:aO}(p:bA g x v):(Builtin.len_ #[t] r #[v]).run P W= .ok (match i with| .c (.I k n)=> .int k n|_=>undef) W/\(∃n:Int,i= .c (.I .i64 n)):=by
 unfold Jy at d;split at d
 .rename_i C q;split at d
  .rename_i e s;split at d
   .rename_i F u l m _;simp only[au]at d;subst d;have h2:=(dZ f q).kind;rw[s]at h2;have o:∃a c,v= .slice a l c:=by
     cases m with
     |some c=>let ⟨b,B,h2⟩:=p;exact⟨_,c,h2⟩
     |none=>let ⟨H,b,c,B,h2,_⟩:=p;exact⟨_,c,h2⟩
    obtain⟨a,c,rfl⟩:=o;exact⟨IM,_,J⟩
   .simp at d
  .simp at d
 .simp at d
def Vy(bW:b8 P tt=ae){ops}{i}{o:aX}{d:Y}(ho:ops[i]? =ad o)(hg:o.guard=none)(hd:o.dst=ad d){n}(di:d<n)
 {st}{x}{p}(f:Cu tt st o.op=ad (x,p)) (hp:p) new:g6 P n ops i (nr st o.op) [(.s d,ad<|.v x)] new:=by
 refine ri ho hg hd di _ x new ?_
 intro F b σ g W a B O
 have K:∀y∈o.op.operands,∀M∈cC st y,σ M.1=ad M.2:=by intro y X M R;exact O M<|iw.2 ⟨y,by simpa using X,R⟩
 have k:∀y∈o.op.operands,∀u,st.ev y=ad u->bA g u (a.eval y)/\∀j∈u.ak,b j:=by intro y X u N;exact⟨du B st y u N<|K y X,rh B st y u N<|K y X⟩
 generalize Q:o.op=op at f k K
 unfold Cu at f
 split at f
 .rename_i c y z;unfold Vv at f;split at f
  .rename_i v S X;simp only[au,bG]at f;obtain⟨rfl,rfl⟩:=f;have T:a.eval c= .bool ae:=(k c gh _ S).1;have L:=k y gh _ X;exact⟨L.2,_,by simp[execOp,Q,T,asBool,jG,pure],L.1⟩
  .rename_i v S X;simp only[au,bG]at f;obtain⟨rfl,rfl⟩:=f;have T:a.eval c= .bool false:=(k c gh _ S).1;have L:=k z gh _ X;exact⟨L.2,_,by simp[execOp,Q,T,asBool,jG,pure],L.1⟩
  .simp at f
 .rename_i t y z;split at f
  .rename_i v w E hw;have L:=k y gh _ E;have V:=k z gh _ hw;let ⟨⟨u,H,U⟩,G⟩:=agv (P:=P) (W:=W) bW f hp L.1 V.1;exact⟨λj A=>L.2 j<|G j A,u,by simp[execOp,Q,H,jG,pure],U⟩
  .simp at f
 .rename_i t y lo hi mx;split at f
  .rename_i v l h m E hl hh G;have L:=k y gh _ E;have V:=EJ B st lo l hl<|λq hq=>K q EK;have h3:=EJ B st hi h hh<|λq hq=>K q EK;have h4:=EJ B st mx m G<|λq hq=>K q EK;let ⟨⟨u,H,U⟩,G⟩:=agw (P:=P) (W:=W) bW f hp L.1 V h3 h4;exact⟨λj A=>L.2 j<|G j A,u,by simp[execOp,Q,H,jG,pure],U⟩
  .simp at f
 .rename_i args Z;split at f
  .rename_i y t ha ht;have D:args= #[y]:=EL;have I:Z= #[t]:=Oa;subst D I;split at f
   .rename_i v E;split at f
    .rename_i u N;simp only[au,bG]at f;obtain⟨rfl,rfl⟩:=f;have L:=k y BX _ E;obtain⟨H,n',rfl⟩:=agx (P:=P) (W:=W) (r:=o.type) bW N L.1;exact⟨pV,.int .i64 n',Cq Q (λcs=>by have e:(#[y]:Array dS).map a.eval= #[a.eval y]:=ax;rw[e];simp only[Jt,cZ,H,de];rfl),J⟩
    .simp at f
   .simp at f
  .simp at f
 .simp at f
end
section
variable{P:bS}{tt:TT}
def OO{ops}{i}{o:aX}{d:Y}(ho:ops[i]? =ad o)(hg:o.guard=none)(hd:o.dst=ad d){n}(di:d<n){be}rd cs sz len x(p:Y)
  (cq:∀(F:eK)(f:Y->Prop)(σ:Kn)(g:Gh)(W:cE)(a:Act),br F f σ g W a->(∀kx∈rd,σ kx.1=ad kx.2)->
   (∀B∈bP cs,f B)/\∃(vs rest:V aO)(l:Y)(W1:cE),aR g cs vs/\(execOp a.eval o).run P W= .ok (.value<|.slice (ad ⟨W.heap.size,0,none⟩) len l) {W1 with heap:=W.heap.push<|.cells (vs++rest).toArray be (0,0)}/\
    W1.os=W.os/\W1.tape=W.tape/\W1.output=W.output/\(∀df,x=ad df->l=df)/\(sz≠0->Z (vs++rest)=l*sz)/\len<=l):
  g6 P n ops i rd [(.s d,ad<|.v<|.c<|.L p 0 len x),(.m p,ad<|.b<|.box be sz cs)] p:=by
 intro F kC Q f σ g W a K j aN N S
 let ⟨hm,vs,rest,l,W1,T,w,e1,e2,e3,z,A,hlen⟩:=cq F f σ g W a aN N
 unfold wpOp
 simp only[ho,hZ,hg,b7]
 refine .inl ?_
 unfold mO
 rw[w]
 simp only[mP,hd]
 have O:d<a.tmps.size:=l0
 let r:Gh:=⟨g.H,λB=>if B=p then .slice (ad ⟨W.heap.size,0,none⟩) 0 l else g.γ B⟩
 have U:r.γ p= .slice (ad ⟨W.heap.size,0,none⟩) 0 l:=by simp[r]
 have D:fP f g r:=⟨cD.refl _,λB q=>by
  have:B≠p:=λe=>j<|e▸q
  simp[r,this]⟩
 have X:∀o,g.H W.heap.size o=none:=by
  intro o;cases hv:g.H W.heap.size o with
  |none=>rfl
  |some v=>
   have:=B2 W _<|aN.sub _ _ _ hv
   simp at this
 have G:Sub g.H {W1 with heap:=W.heap.push<|.cells (vs++rest).toArray be (0,0)}:=by have:=zG aN.sub<|.cells (vs++rest).toArray be (0,0);exact this
 refine S r _ _<|aN.step (chg:=λ_=>False) (g':=r) ⟨D,λ_ _ _=>rfl,G,ax,λk M _=>B1 W _ k M,e1,e2,e3⟩ _ p j mL aN.defers ?_ (λ_ cq=>cq.elim) ?_ ?_ ?_ ?_
 .intro t ht;have R:d≠t:=rq;simp[gT,lC R]
 .intro t u ht;simp only[aC]at ht;split at ht
  .rename_i e;simp only[Key.s.injEq]at e;simp only[au,Info.v.injEq]at ht;subst e;subst ht;have I:(a.put (ad d)<|.slice (ad ⟨W.heap.size,0,none⟩) len l).tmps.getD d undef= .slice (ad ⟨W.heap.size,0,none⟩) len l:=by simp[gT,O]
   show cQ r _ _;rw[I];cases x with
   |some df=>have:=z df J;subst this;exact⟨W.heap.size,by rw[U];rfl,J⟩
   |none=>exact⟨J,W.heap.size,l,U,J,hlen⟩
  .split at ht
   .simp at ht
   .simp at ht
 .intro B b ht;simp only[aC,reduceCtorEq,bL]at ht;split at ht
  .rename_i e;simp only[Key.m.injEq]at e;subst e;simp only[au,Info.b.injEq]at ht;subst ht;refine⟨⟨W.heap.size,vs,rest,by rw[U];rfl,ax,aR.mono D hm T,.inl aN.below.size,X,λh0=>⟨l,U,A h0⟩⟩,.inr ⟨J,λk M=> .inl ?_⟩⟩;rw[U]at M;simp only[cz,au]at M;omega
  .simp at ht
 .intro k y ht;simp only[aC]at ht;split at ht
  .simp only[au]at ht;subst ht;intro B q;simp[Info.ak,AV.ak,C.ak]at q;exact .inr q
  .split at ht
   .simp only[au]at ht;subst ht;exact λB q=> .inl<|hm B q
   .simp at ht
 .intro B y ht;simp only[aC,reduceCtorEq,bL]at ht;split at ht
  .rename_i e;simp only[Key.m.injEq]at e;exact .inr e.symm
  .simp at ht
def agy(bW:b8 P tt=ae){H}{i}{o:aX}{d:Y}(ho:H[i]? =ad o)(hg:o.guard=none)(hd:o.dst=ad d){n}(di:d<n){t}{x cp}(bU:o.op= .makeSlice t x cp)
 {st}{m:Y} {k k2}(hx:st.ev x=ad (.c<|.I k (m:Int))) (hy:st.ev cp=ad (.c<|.I k2 (m:Int))) {be}{ti f:TI} (mN:S t tt=ad ti) (hk:ti.kind= .sl be) (ny:S be tt=ad f) (Fg:0<f.size) (hb:m*f.bytes<=16777216) (lE:m<=16777216) (p:Y):
  g6 P n H i (nr st o.op) [(.s d,ad<|.v<|.c<|.L p 0 m<|ad m),(.m p,ad<|.b<|.box be 0<|Ck (f.zero.map ZV.oJ) m)] p:=by
 refine OO ho hg hd di _ _ _ _ _ p ?_
 intro F j R g W a u C
 have M:a.eval x= .int k (m:Int):=du u st x _ hx<|λr bZ=>C r Oz
 have w:a.eval cp= .int k2 (m:Int):=du u st cp _ hy<|λr bZ=>C r Oz
 have G:=(dZ bW mN).kind
 rw[hk]at G
 let ⟨inf,K,Q,U,z,A,vH⟩:=(dZ bW ny).info
 have B:Z (f.zero.map ZV.eG)=f.size:=OH
 have X:z.cells=(f.zero.map ZV.eG).toArray:=B6
 have h:(f.zero.map ZV.eG)≠[]:=by intro e;rw[e]at B;simp at B;omega
 have D:(inf.bytes:Int)*(m:Int)<=281474976710656:=by
  rw[U];have:(f.bytes:Int)*(m:Int)=((m*f.bytes:Y):Int):=by rw[gO];simp
  rw[this];omega
 have l:=run_make (P:=P) W t be inf z G K A k k2 m m O O D O
 refine⟨OG,(bg m<|f.zero.map ZV.eG).flatten,[],m,W,Jo (xI g f.zero) m,?_,J,J,J,λc N=>Vw N,ax,aW _⟩
 rw[execOp,bU]
 have q:madeCells z.cells (m*inf.size)=((bg m<|f.zero.map ZV.eG).flatten).toArray:=by rw[Q,X,<-B,<-Jg _ m h];rfl
 simp only[b6]at l
 rw[q]at l
 simp only[M,w,cZ,l,de,g8]
 rfl
def agz(bW:b8 P tt=ae){F}{m:Y->Prop}{σ}{g}{W}{a}(L:br F m σ g W a){st}{o}{t d}{k}(bU:o.op= .buildSlice t d k){be}{ei}{B}(Fg:0<ei.size)(xR:d*ei.size<=16777216)
  (n:sJ tt st t d k.toList=ad (be,ei,B)) (fc:∀kx∈nr st o.op,σ kx.1=ad kx.2):
  ∃u:V aO,(execOp a.eval o).run P W= .ok (.value<|.slice (ad ⟨W.heap.size,0,none⟩) d d) {W with heap:=W.heap.push<|.cells u.toArray be (0,0)}/\aR g B u/\Z u=d*ei.size/\∀id∈bP B,m id:=by
 unfold sJ at n
 split at n
 .rename_i ti j;split at n
  .rename_i N S;split at n
   .rename_i l ny;split at n
    .rename_i cs r;simp only[au,bG]at n;obtain⟨rfl,rfl,rfl⟩:=n;have R:=(dZ bW j).kind;rw[S]at R;let ⟨inf,ud,K,_,z,hz,vH⟩:=(dZ bW ny).info;have Q:z.cells=(l.zero.map ZV.eG).toArray:=B6;let ⟨u,U,iv,y,A⟩:=EX L st (uj l.size 0 d) (λi=>ad (i*l.size,l.size)) (λi x h=>by rw[Jn _ _ _ _ _ h];simp) k.toList _ _ _ r (Jo (xI g l.zero) d) (λp T kx D=>fc kx<|by rw[bU];refine iw.2 ⟨p.2,?_,D⟩;simp only[Op.operands,je];exact⟨p,T,J⟩) OG;have q:Z (l.zero.map ZV.eG)=l.size:=OH;have X:Z u=d*l.size:=by rw[y,Vc,q]
     refine⟨u,?_,iv,X,A⟩;have C:execOp a.eval o=(do pure (.value<|<-Ff t d (k.map λ(i,x)=>(i,a.eval x)))):=ua;have b:(k.map λ(i,x)=>(i,a.eval x)).toList=k.toList.map λp=>(p.1,a.eval p.2):=ax
     have G:(zeroValue N).run P W= .ok z W:=On;have s:((Array.range<|d*l.size).map<|λi=>(l.zero.map ZV.eG).toArray[i%(l.zero.map ZV.eG).toArray.size]!)=((bg d<|l.zero.map ZV.eG).flatten).toArray:=by have:=Jg (l.zero.map ZV.eG) d (by intro e;rw[e]at q;simp at q;omega);rw[q]at this;exact this
     have hb:(Ff t d<|k.map λ(i,x)=>(i,a.eval x)).run P W= .ok (.slice (ad ⟨W.heap.size,0,none⟩) d d) {W with heap:=W.heap.push<|.cells u.toArray N (0,0)}:=by
      unfold Ff;rw[cZ,run_underlying R];simp only[de];rw[cZ,run_sizeOf ud];simp only[de,K];rw[w O];by_cases c:d*l.size=0
      .have H:d=0:=by
        rcases Nat.mul_eq_zero.1 c with h|h
        .exact h
        .omega
       subst H;have I:u=[]:=fE (by rw[X];simp);subst I;have v:=U;simp only[Cm,List.flatten_nil]at v;have M:∀f:Y->aO,(Array.range 0).map f= #[]:=λf=>by simp
       simp only[rB,b7,pure_bind,M,b,v];rfl
      .rw[w c];simp only[pure_bind,cZ,G,de,Q,s,b,U];rfl
     rw[C,cZ,hb];rfl
    .simp at n
   .simp at n
  .simp at n
 .simp at n
def agA(B:b8 P tt=ae){p}{i}{o:aX}{d:Y}(ho:p[i]? =ad o)(hg:o.guard=none)(hd:o.dst=ad d){n}(H:d<n){t e:Y}{f}(Q:o.op= .buildSlice t e f)
 {st}{be}{U}{cs}(q:0<U.size) (k:e*U.size<=16777216) (hv:sJ tt st t e f.toList=ad (be,U,cs)) (l:Y):
  g6 P n p i (nr st o.op) [(.s d,ad<|.v<|.c<|.L l 0 e<|ad e),(.m l,ad<|.b<|.box be 0 cs)] l:=by
 refine OO ho hg hd H _ _ _ _ _ l ?_
 intro F C j g W a u K
 let ⟨us,x,X,hl,hm⟩:=agz B u Q q k hv K
 exact⟨hm,us,[],e,W,X,by simpa using x,J,J,J,λc h=>Vw h,ax,aW _⟩
end
def sQ(e:St)(sz:Y):AV->ar (Y×V C×V Y)
 | .c (.L id off len _)=>(match S id e.mem with
  |some (.box _ _ cs)=>if off+len*sz<=Z cs then ad (len,(az off cs).take<|len*sz,[id])else none
  |some (.fz _ cs)=>if off+len*sz<=Z cs then ad (len,(az off cs).take<|len*sz,[id])else none
  |_=>none)
 | .c (.S a d)=>if a.n=sz then ad (Z d,d.flatMap<|av a,[])else none
 | .c (.V<|.slice none 0 0)=>ad (0,[],[])
 |_=>none
section
variable{P:bS}{tt:TT}
def OP{u}(a:ns u=ae):u.oneCell'=ae:=by revert a;cases u<;>simp[ns,Value.oneCell']
def Vz{e:ET}:∀(f:V e.den),∀d∈f.flatMap (av e),jH d=ae
 |[],d,a=>by simp at a
 |g::f,d,a=>by
  simp only[kD,aY]at a;rcases a with a|a
  .exact B3 e g d a
  .exact Vz f d a
def VA{f:ET}:∀(e:V f.den),bP (e.flatMap<|av f)=[]
 |[]=>rfl
 |i::e=>by
  refine OE.2 λg a=>?_
  rw[kD]at a;rcases BZ _ _ g a with d|d
  .rw[EO]at d;cases d
  .rw[VA e]at d;cases d
def VB{g:Gh}(a:ET):∀(xs:V a.den)(vs:V aO),Z vs=Z xs*a.n->(∀i(d:i<Z xs),cV g.H a xs[i] ((az (i*a.n) vs).take a.n))->aR g (xs.flatMap<|av a) vs
 |[],vs,hl,_=>by have:vs=[]:=fE tY;subst this;rfl
 |x::xs,vs,hl,d=>by rw[kD];have e:=d 0 ax;simp only[rB,oQ,tX]at e;have:=aR.append (zj (g:=g) a x _ e) (VB a xs (az a.n vs) (by simp at hl⊢;rw[hl,gk];omega)<|λi f=>by have:=d (i+1) (by simpa using f);simp only[zB]at this;rw[oN];rw[(EI:a.n+i*a.n=(i+1)*a.n)];exact this);rwa[q8]at this
def z4{F}{q:Y->Prop}{σ}{g}{W}{a}(i:br F q σ g W a){st}{y}{sz m}{cs}{ids}(k:sQ st sz y=ad (m,cs,ids)){v}(hv:bA g y v)
  (fc:∀Q∈ids,∀U,S Q st.mem=ad U->σ (.m Q)=ad (.b U)) {t e}(hu:P.underlying t=ad (.slice e)) (oR:cs.all jH=ae):
  ∃L:V aO,Src P sz t v m L W/\aR g cs L/\(∀Q∈bP cs,q Q)/\∀u∈L,ns u=ae:=by
 have o:∀L,aR g cs L->∀u∈L,ns u=ae:=λL K=>K.one<|λc hc=>l6.1 oR c hc
 unfold sQ at k
 split at k
 .rename_i Q d f X;split at k
  .rename_i E bz r M;split at k
   .rename_i G;simp only[au,bG]at k;obtain⟨rfl,rfl,rfl⟩:=k;have s:=fc Q ax _ M;let ⟨U,vs,rest,l,hh,K,hN,hz,vY⟩:=i.cL Q _ s;have x:∃c,v= .slice (ad ⟨U,d,none⟩) f c:=by
     cases X with
     |some c=>
      let ⟨N,p,h2⟩:=hv
      rw[l]at p
      cases p
      exact⟨c,h2⟩
     |none=>
      let ⟨O,N,c,p,h2,_⟩:=hv
      rw[p]at l
      simp only[cz,au]at l
      subst l O
      exact⟨c,h2⟩
    obtain⟨c,rfl⟩:=x;have n:aR g ((az d r).take<|f*sz) ((az d vs).take<|f*sz):=(K.drop d).take _;have R:=K.length;have B:Z ((az d vs).take<|f*sz)=f*sz:=bV;refine⟨_,Src.ofSlice W hu ⟨U,d,none⟩ f c _ B ?_<|λu w=>OP<|o _ n u w,n,?_,o _ n⟩
    .intro j u hj;let ⟨z,C⟩:=rj.1 hj;simp only[pX,sx]at C;have A:d+j<Z vs:=by rw[B]at z;omega
     simp only[k4];rw[tZ hh (d+j) bV,vF A,C]
    .intro D H;exact i.ak _ _ s D<|EF _ _ _<|BS _ _ _ H
   .simp at k
  .rename_i E r M;split at k
   .rename_i G;simp only[au,bG]at k;obtain⟨rfl,rfl,rfl⟩:=k;have s:=fc Q ax _ M;let ⟨U,vs,rest,l,hh,K,hN,hz⟩:=i.cL Q _ s;have x:∃c,v= .slice (ad ⟨U,d,none⟩) f c:=by
     cases X with
     |some c=>
      let ⟨N,p,h2⟩:=hv
      rw[l]at p
      cases p
      exact⟨c,h2⟩
     |none=>
      let ⟨O,N,c,p,h2,_⟩:=hv
      rw[p]at l
      simp only[cz,au]at l
      subst l O
      exact⟨c,h2⟩
    obtain⟨c,rfl⟩:=x;have n:aR g ((az d r).take<|f*sz) ((az d vs).take<|f*sz):=(K.drop d).take _;have R:=K.length;have B:Z ((az d vs).take<|f*sz)=f*sz:=bV;refine⟨_,Src.ofSlice W hu ⟨U,d,none⟩ f c _ B ?_<|λu w=>OP<|o _ n u w,n,?_,o _ n⟩
    .intro j u hj;let ⟨z,C⟩:=rj.1 hj;simp only[pX,sx]at C;have A:d+j<Z vs:=by rw[B]at z;omega
     simp only[k4];rw[tZ hh (d+j) bV,vF A,C]
    .intro D H;exact i.ak _ _ s D<|EF _ _ _<|BS _ _ _ H
   .simp at k
  .simp at k
 .rename_i T ys;split at k
  .rename_i hT;simp only[au,bG]at k;obtain⟨rfl,rfl,rfl⟩:=k;subst hT;let ⟨L,p,h2,h3,h4⟩:=Vm (P:=P) hv;have I:∀w':cE,(Vn v).run P w'= .ok (Z ys) w':=by obtain⟨a,X,rfl,_⟩:=hv;intro w';rfl
   exact⟨L,⟨.inl ⟨_,hu⟩,I,p W i.sub,p W.drew i.sub,h2,λu hu=>OP<|h4 u hu⟩,VB T ys L h2 h3,by rw[VA];simp,h4⟩
  .simp at k
 .simp only[au,bG]at k;obtain⟨rfl,rfl,rfl⟩:=k;have x:v= .slice none 0 0:=hv;subst x;exact⟨[],Src.ofNil W hu 0,J,by simp[bP],ax⟩
 .simp at k
def VC{W}{l n ty o}{a:TypeInfo}(g:P.underlying l=ad (.slice o))(v:P.info? o=ad a){b off sLen sCap}{p}{m}
 {d vs}{q}(i:Src P a.size n p m d W) (x:W.heap[b]? =ad (.cells vs.toArray q (0,0))) (e:∀u∈d,ns u=ae) (k:sLen+m<=sCap) (s:off+sLen*a.size+Z d<=Z vs):
  (vR #[l,n] ty #[.slice (ad ⟨b,off,none⟩) sLen sCap,p]).run P W= .ok (.slice (ad ⟨b,off,none⟩) (sLen+m) sCap) (iH W b (cM vs d<|off+sLen*a.size) q):=by
 have f:=zC (P:=P) b d W vs (off+sLen*a.size) 0 x O e
 simp only[iR]at f
 rcases i.kind with⟨B,t⟩|t<;>
  simp[vR,run_underlying g,run_underlying t,sizeOf,typeInfo,v,i.len,k,i.cells,k4,f]
end
section
variable{P:bS}{tt:TT}
structure Cv(P:bS)(d t2 E:dM)(sz:Y)(bytes:Y):Prop where
 u1:P.underlying d=ad (.slice E)
 u2:∃e,P.underlying t2=ad (.slice e)
 info:∃a z,P.info? E=ad a/\a.size=sz/\a.bytes=bytes/\a.zero=ad z/\z.cells.size=sz
 pos:0<sz
def OQ(a:St)(sz:Y):AV->ar (Y×Y×V C×V Y)
 | .c (.L id off len<|ad d)=>(match S id a.mem with
  |some (.box _ _ cs)=>if off+len*sz<=Z cs then ad (len,d,(az off cs).take<|len*sz,[id])else none
  |_=>none)
 | .c (.V<|.slice none 0 0)=>ad (0,0,[],[])
 |_=>none
def vZ{st}{ids}{σ:Kn}(g:∀f∈ff st ids,σ f.1=ad f.2):∀a∈ids,∀d,S a st.mem=ad d->σ (.m a)=ad (.b d):=by intro a e d i;exact g (.m a,.b d)<|iw.2 ⟨a,e,by simp[i]⟩
def JA{a:Act}{o}{x d}{g i}(f:o.op= .call ⟨.builtin .append,#[x,d],#[g,i]⟩){W k}{v}(l:(vR #[g,i] o.type #[a.eval x,a.eval d]).run P W= .ok v k):(execOp a.eval o).run P W= .ok (.value v) k:=by refine Cq f<|λm=>?_;have e:(#[x,d]:Array dS).map a.eval= #[a.eval x,a.eval d]:=ax;rw[e];simp only[Jt,cZ,l,de];rfl
def VD{ops}{i}{o:aX}{d:Y}(ho:ops[i]? =ad o)(hg:o.guard=none)(hd:o.dst=ad d){n}(di:d<n){x cp}{t1 t2}(bU:o.op= .call ⟨.builtin .append,#[x,cp],#[t1,t2]⟩)
 {B}{be}{sz q}(hT:Cv P t1 t2 be sz q) {vx vy:AV} (hx:B.ev x=ad vx) (hy:B.ev cp=ad vy) {len c m:Y} {cb cs:V C} {ib is:V Y} (l:OQ B sz vx=ad (len,c,cb,ib)) (hs:sQ B sz vy=ad (m,cs,is)) (oR:cs.all jH=ae)
  (Fo:c<len+m) (Q:((len+m)+(len+m)/4+192)*q<=281474976710656) (agB:len+m<=140737488355328) (U:Y):
  g6 P n ops i (cC B x++cC B cp++ff B (ib++is)) [(.s d,ad<|.v<|.c<|.L U 0 (len+m) none),(.m U,ad<|.b<|.box be sz<|cb++cs)] U:=by
 refine OO ho hg hd di _ _ _ _ _ U ?_
 intro F X σ g W a f r
 have D:=du f B x _ hx<|λG bZ=>r G dR
 have sO:=du f B cp _ hy<|λG bZ=>r G dR
 have I:=vZ (st:=B) (ids:=ib++is) (σ:=σ)<|λG bZ=>r G dR
 let ⟨e2,iv⟩:=hT.u2
 let ⟨inf,z,M,rC,N,vT,sL⟩:=hT.info
 let ⟨us,xT,v3,qi,v5⟩:=z4 (P:=P) f hs sO (λH w b l=>I H (fU _ w) b l) iv oR
 have A:∃(base:ar Addr)(e:V aO),a.eval x= .slice base len c/\aR g cb e/\Z e=len*sz/\(∀H∈bP cb,X H)/\(xS inf.size len<|.slice base len c).run P W.drew= .ok e.toArray W.drew:=by
  unfold OQ at l;split at l
  .rename_i H p k c';split at l
   .rename_i E' bz nV hl;split at l
    .rename_i JB;simp only[au,bG]at l;obtain⟨rfl,rfl,rfl,rfl⟩:=l;have R:=I H ax _ hl;let ⟨b,vs,rest,hγ,hh,hr,hN,hz,vY⟩:=f.cL H _ R;let ⟨b',h1,h2⟩:=D;rw[hγ]at h1;cases h1;have sH:=hr.length;have t:Z ((az p vs).take<|k*sz)=k*sz:=bV;refine⟨_,(az p vs).take<|k*sz,h2,(hr.drop p).take _,t,?_,?_⟩
     .intro nz S;exact f.ak _ _ R nz<|EF _ _ _<|BS _ _ _ S
     .rw[rC];refine run_firstCells_some W.drew sz k ⟨b,p,none⟩ k c' _ t ?_;intro j u hj;let ⟨BL,T⟩:=rj.1 hj;simp only[pX,sx]at T;have Fp:p+j<Z vs:=by rw[t]at BL;omega
      simp only[k4];have Fl:W.drew.heap[b]? =ad (.cells (vs++rest).toArray E' (0,0)):=hh;rw[tZ Fl (p+j) bV,vF Fp,T]
    .simp at l
   .simp at l
  .simp only[au,bG]at l;obtain⟨rfl,rfl,rfl,rfl⟩:=l;have sn:a.eval x= .slice none 0 0:=D;exact⟨none,[],sn,J,ax,by simp[bP],run_firstCells_none W.drew _ 0 0 0⟩
  .simp at l
 let ⟨base,e,Cw,hro,Fi,Fq,OR⟩:=A
 have hr:=run_append_grow_src (P:=P) W t1 t2 o.type be inf z hT.u1 M vT base len c e OR (a.eval cp) m us JC Fo O (growslice_fits_wide Fo<|by rw[N];exact Q)
 have sy:=grownCap_ge W (len+m) c be
 refine⟨?_,e++us,(Js z.cells<|grownCap W (len+m) c be-(len+m)).toList,grownCap W (len+m) c be,W.drew,hro.append v3,?_,J,J,J,ax,λ_=>?_,sy⟩
 .intro H w;rcases BZ _ _ H w with h|h
  .exact Fq H h
  .exact qi H h
 .refine JA bU ?_;rw[Cw,hr];have K:(e++us).toArray++Js z.cells (grownCap W (len+m) c be-(len+m))=(e++us++(Js z.cells<|grownCap W (len+m) c be-(len+m)).toList).toArray:=by apply BY;simp
  rw[K];rfl
 .have t:=xT.newsLen;simp only[ix,Fi,t,Fj,size_zeroCells,sL,<-gk];congr 1;omega
def agD{p}{i}{o:aX}{d:Y}(ho:p[i]? =ad o)(hg:o.guard=none)(hd:o.dst=ad d){n}(L:d<n){x H}{t1 t2}(Q:o.op= .call ⟨.builtin .append,#[x,H],#[t1,t2]⟩)
 {f}{be}{sz l}(U:Cv P t1 t2 be sz l) {vy:AV} (hx:f.ev x=ad (.c<|.V<|.slice none 0 0)) (hy:f.ev H=ad vy) {cs:V C} {is:V Y} (hs:sQ f sz vy=ad (0,cs,is)) (oR:cs.all jH=ae) (q:Y):
  g6 P n p i (cC f x++cC f H++ff f is) [(.s d,ad<|.v<|.c<|.V<|.slice none 0 0)] q:=by
 refine ri ho hg hd L _ _ q ?_
 intro F K w g W a e m
 have X:a.eval x= .slice none 0 0:=du e f x _ hx<|λt bZ=>m t dR
 have b:=du e f H _ hy<|λt bZ=>m t dR
 have h:=vZ (st:=f) (ids:=is) (σ:=w)<|λt bZ=>m t dR
 let ⟨N,iv⟩:=U.u2
 let ⟨inf,z,u,B,j,A,D⟩:=U.info
 let ⟨us,k,G,I,M⟩:=z4 (P:=P) e hs b h iv oR
 refine⟨pV,.slice none 0 0,JA Q ?_,J⟩
 rw[X]
 have r:=k.cells
 rw[<-B]at r
 simp[vR,run_underlying U.u1,run_underlying iv,sizeOf,typeInfo,u,k.len]
 rw[r]
 rfl
end
section
variable{P:bS}{tt:TT}
def Fs{a:Act}{d t}{v}{g:V (Key×ar Info)}{x}(ht:aC ((.s d,x)::g) (.s t)=none):(a.put (ad d) v).tmps.getD t undef=a.tmps.getD t undef:=by have f:d≠t:=rq;simp[gT,lC f]
def agE{ops}{i}{o:aX}{d:Y}(ho:ops[i]? =ad o)(hg:o.guard=none)(hd:o.dst=ad d){n}(di:d<n){x cp}{t1 t2}(bU:o.op= .call ⟨.builtin .append,#[x,cp],#[t1,t2]⟩)
 {U}{be}{sz bytes}(hT:Cv P t1 t2 be sz bytes) {B p f df:Y} {vy:AV} (hx:U.ev x=ad (.c<|.L B p f<|ad df)) (hy:U.ev cp=ad vy) {Eb:dM} {bz:Y} {nV:V C} (hl:S B U.mem=ad (.box Eb bz nV)) {m:Y} {cs:V C} {is:V Y} (hs:sQ U sz vy=ad (m,cs,is)) (oR:cs.all jH=ae)
  (hle:f+m<=df) (JB:p+(f+m)*sz<=Z nV) (new:Y):
  g6 P n ops i (cC U x++cC U cp++ff U (B::is)) [(.s d,ad<|.v<|.c<|.L B p (f+m)<|ad df),(.m B,ad<|.b<|.box Eb bz<|cM nV cs<|p+f*sz)] new:=by
 intro F kC Q known σ g W a K G aN w hK
 have vS:=du aN U x _ hx<|λI bZ=>w I dR
 have sO:=du aN U cp _ hy<|λI bZ=>w I dR
 have M:=vZ (st:=U) (ids:=B::is) (σ:=σ)<|λI bZ=>w I JD
 let ⟨e2,iv⟩:=hT.u2
 let ⟨inf,z,N,rC,Cs,vT,sL⟩:=hT.info
 let ⟨us,xT,R,qi,v5⟩:=z4 (P:=P) aN hs sO (λB eF b hb=>M B (jF _ eF) b hb) iv oR
 have q:=M B ax _ hl
 let ⟨b,vs,rest,X,hh,hr,hN,hz,vY⟩:=aN.cL B _ q
 let ⟨b',h1,Cw⟩:=vS
 rw[X]at h1
 cases h1
 have mb:=xT.newsLen
 have q9:=R.length
 have sH:=hr.length
 have uk:(f+m)*sz=f*sz+m*sz:=gk _ _ _
 have A:p+f*sz+Z us<=Z vs:=O
 have r:=VC (P:=P) (ty:=o.type) (W:=W) hT.u1 N (b:=b) (off:=p) (sLen:=f) (sCap:=df) JC hh v5 hle (by rw[rC];simp;omega)
 rw[rC]at r
 have T:cM (vs++rest) us (p+f*sz)=cM vs us (p+f*sz)++rest:=Oe vs rest us _ A
 unfold wpOp
 simp only[ho,hZ,hg,b7]
 refine .inl ?_
 unfold mO
 rw[JA bU (by rw[Cw];exact r)]
 simp only[mP,hd]
 have vV:d<a.tmps.size:=l0
 have hb:b<W.heap.size:=(fT.1 hh).1
 refine hK g _ _<|aN.step (chg:=λj=>j=B) (g':=g) ⟨⟨cD.refl _,λ_ _=>rfl⟩,λ_ _ _=>rfl,zD aN.sub hz,zF,?_,J,J,J⟩ _ new G mL aN.defers (λt D=>Fs D) ?_ ?_ ?_ ?_ ?_
 .intro k hk fe;have:b≠k:=λe=>fe B J (by rw[X,e])
  exact xE this
 .intro j H;subst H;exact⟨xH,_,q⟩
 .intro t u D;simp only[aC]at D;split at D
  .rename_i e;simp only[Key.s.injEq]at e;simp only[au,Info.v.injEq]at D;subst e;subst D;refine⟨b,X,?_⟩;simp[gT,vV]
  .simp at D
 .intro j bk H;simp only[aC,reduceCtorEq,bL]at H;split at H
  .rename_i e';simp only[Key.m.injEq]at e';subst e';simp only[au,Info.b.injEq]at H;subst H;refine⟨⟨b,cM vs us<|p+f*sz,rest,X,by rw[xD hb,T],hr.cM R _,hN,hz,λh0=>?_⟩,.inl ⟨aN.dQ _ _ q,_,q⟩⟩;let ⟨c',e1,e2⟩:=vY h0;refine⟨c',e1,?_⟩;rw[<-T,xF _ _ _ bV];exact e2
  .simp at H
 .intro k z' l;simp only[aC]at l;split at l
  .simp only[au]at l;subst l;intro j H;simp[Info.ak,AV.ak,C.ak]at H;subst H;exact .inl<|aN.dQ _ _ q
  .split at l
   .simp only[au]at l;subst l;intro j H;rcases ES _ _ _ j H with h|h
    .exact .inl<|aN.ak _ _ q j h
    .exact .inl<|qi j h
   .simp at l
 .intro j z' l;simp only[aC,reduceCtorEq,bL]at l;split at l
  .rename_i e';simp only[Key.m.injEq]at e';subst e';exact .inl<|aN.dQ _ _ q
  .simp at l
def agF{ops}{i}{o:aX}{d:Y}(ho:ops[i]? =ad o)(hg:o.guard=none)(hd:o.dst=ad d){n}(di:d<n){x cp}{t1 t2}(bU:o.op= .call ⟨.builtin .append,#[x,cp],#[t1,t2]⟩)
 {st}{be}{sz bytes}(hT:Cv P t1 t2 be sz bytes) {q off f:Y} {vy:AV} (hx:st.ev x=ad (.c<|.L q off f none)) (hy:st.ev cp=ad vy) {nV:V C} (hl:S q st.mem=ad (.box be sz nV)) {m:Y} {cs:V C} {is:V Y} (hs:sQ st sz vy=ad (m,cs,is)) (oR:cs.all jH=ae)
  (JB:f*sz<=Z nV) (agG:((f+m)+(f+m)/4+192)*bytes<=281474976710656) (agB:f+m<=140737488355328) (B:Y):
  g6 P n ops i (cC st x++cC st cp++ff st (q::is)) [(.s d,ad<|.v<|.c<|.L B 0 (f+m) none),(.m B,ad<|.b<|.box be sz<|h (f*sz) nV++cs),(.m q,none)] B:=by
 intro F kC Q w σ g W a K A aN fc hK
 have vS:=du aN st x _ hx<|λkx bZ=>fc kx dR
 have sO:=du aN st cp _ hy<|λkx bZ=>fc kx dR
 have mc:=vZ (st:=st) (ids:=q::is) (σ:=σ)<|λkx bZ=>fc kx JD
 let ⟨e2,iv⟩:=hT.u2
 let ⟨inf,z,ud,rC,Cs,vT,sL⟩:=hT.info
 let ⟨us,xT,v3,qi,v5⟩:=z4 (P:=P) aN hs sO (λq eF b hb=>mc q (jF _ eF) b hb) iv oR
 have D:=mc q ax _ hl
 have Fg:=hT.pos
 let ⟨b,vs,rest,hγ,hh,hr,hN,hz,vY⟩:=aN.cL q _ D
 let ⟨c,agH,agI⟩:=vY O
 let ⟨h0,b',c',h1,Cw,hlc⟩:=vS
 rw[agH]at h1
 simp only[Value.slice.injEq,au,Addr.mk.injEq,and_true,true_and]at h1
 obtain⟨rfl,rfl⟩:=h1
 have mb:=xT.newsLen
 have q9:=v3.length
 have sH:=hr.length
 have VE:q≠B:=λe=>A<|e▸aN.dQ _ _ D
 have M:∀o,g.H W.heap.size o=none:=by
  intro o;cases hv:g.H W.heap.size o with
  |none=>rfl
  |some v=>
   have:=B2 W _<|aN.sub _ _ _ hv
   simp at this
 have hbW:b<W.heap.size:=(fT.1 hh).1
 have G:(h (f*sz) vs).length=f*sz:=bV
 have hrp:aR g (h (f*sz) nV++cs) (h (f*sz) vs++us):=(hr.take _).append v3
 have I:∀j∈bP (h (f*sz) nV++cs),w j:=by
  intro j U;rcases BZ _ _ j U with cq|cq
  .exact aN.ak _ _ D j<|BS _ _ _ cq
  .exact qi j cq
 have OS:∃(v':aO)(R:cE)(b' c':Y)(p:V aO),(vR #[t1,t2] o.type #[a.eval x,a.eval cp]).run P W= .ok v' R/\v'= .slice (ad ⟨b',0,none⟩) (f+m) c'/\f+m<=c'/\
   R.heap[b']? =ad (.cells (h (f*sz) vs++us++p).toArray be (0,0))/\(h (f*sz) vs++us++p).length=c'*sz/\W.heap.size<=R.heap.size/\(∀k,k<W.heap.size->b≠k->R.heap[k]? =W.heap[k]?)/\R.os=W.os/\R.tape=W.tape/\R.output=W.output/\Sub g.H R/\(∀o,g.H b' o=none)/\F.N b'/\(W.heap.size<=b'\/b'=b):=by
  by_cases X:f+m<=c
  .have uk:(f+m)*sz<=c*sz:=ef _ X;rw[gk]at uk;have Fk:Z (vs++rest)=Z vs+Z rest:=ix;have r:=VC (P:=P) (ty:=o.type) (W:=W) hT.u1 ud (b:=b) (off:=0) (sLen:=f) (sCap:=c) JC hh v5 X (by rw[rC];omega);rw[rC,eH]at r;have z5:cM (vs++rest) us (f*sz)=h (f*sz) vs++us++az (f*sz+Z us) (vs++rest):=by unfold cM;rw[vG O]
   refine⟨_,_,b,c,az (f*sz+Z us)<|vs++rest,by rw[Cw];exact r,J,X,by rw[xD hbW,z5],?_,zF,λk _ T=>xE T,J,J,J,zD aN.sub hz,hz,hN,.inr J⟩;rw[<-z5,xF _ _ _ O];exact agI
  .have OR:(xS inf.size f<|.slice (ad ⟨b,0,none⟩) f c).run P W.drew= .ok (h (f*sz) vs).toArray W.drew:=by
    rw[rC];refine run_firstCells_some W.drew sz f ⟨b,0,none⟩ f c _ G ?_;intro j u U;let ⟨BL,tU⟩:=rj.1 U;simp only[pX]at tU;have Fp:j<Z vs:=by rw[G]at BL;omega
    simp only[k4,eH];have Fl:W.drew.heap[b]? =ad (.cells (vs++rest).toArray be (0,0)):=hh;rw[tZ Fl j bV,vF Fp,tU]
   have Fo:c<f+m:=O;have hr':=run_append_grow_src (P:=P) W t1 t2 o.type be inf z hT.u1 ud vT (ad ⟨b,0,none⟩) f c _ OR (a.eval cp) m us JC Fo O (growslice_fits_wide Fo<|by rw[Cs];exact agG);have sy:=grownCap_ge W (f+m) c be;refine⟨_,_,W.heap.size,grownCap W (f+m) c be,(Js z.cells<|grownCap W (f+m) c be-(f+m)).toList,by rw[Cw];exact hr',J,sy,?_,?_,ax,λk T _=>heap_alloc_old W.drew _ T,J,J,J,zG aN.sub _,M,.inl aN.below.size,.inl (aW _)⟩
   .rw[show W.heap.size=W.drew.heap.size from J,heap_alloc_new];congr 2;apply BY;simp
   .simp only[ix,G,mb,Fj,size_zeroCells,sL,<-gk];congr 1;omega
 let ⟨v',R,bn,cn,p,r,sn,Cx,hhn,htn,agP,agQ,ho1,ho2,ho3,agU,hHn,hNn,agX⟩:=OS
 unfold wpOp
 simp only[ho,hZ,hg,b7]
 refine .inl ?_
 unfold mO
 rw[JA bU r]
 simp only[mP,hd]
 have vV:d<a.tmps.size:=l0
 let g':Gh:=⟨g.H,λq=>if q=B then .slice (ad ⟨bn,0,none⟩) 0 cn else g.γ q⟩
 have JE:g'.γ B= .slice (ad ⟨bn,0,none⟩) 0 cn:=by simp[g']
 have Ct:fP w g g':=⟨cD.refl _,λq eF=>by
  have:q≠B:=λe=>A<|e▸eF
  simp[g',this]⟩
 refine hK g' _ _<|aN.step (chg:=λj=>j=q) (g':=g') ⟨Ct,λ_ _ _=>rfl,agU,agP,?_,ho1,ho2,ho3⟩ _ B A mL aN.defers (λt ht=>Fs ht) ?_ ?_ ?_ ?_ ?_
 .intro k T fe;exact agQ k T (λe=>fe q J<|by rw[hγ,e])
 .intro j U;subst U;exact⟨by simp[aC,Ne.symm VE],_,D⟩
 .intro t u ht;simp only[aC]at ht;split at ht
  .rename_i e;simp only[Key.s.injEq]at e;simp only[au,Info.v.injEq]at ht;subst e;subst ht;refine⟨J,bn,cn,JE,?_,Cx⟩;simp[gT,vV,sn]
  .simp at ht
 .intro j bk U;simp only[aC,reduceCtorEq,bL]at U;split at U
  .rename_i e';simp only[Key.m.injEq]at e';subst e';simp only[au,Info.b.injEq]at U;subst U;refine⟨⟨bn,_,p,by rw[JE];rfl,hhn,aR.mono Ct I hrp,hNn,hHn,λ_=>⟨cn,JE,htn⟩⟩,.inr ⟨J,λk T=>?_⟩⟩;rw[JE]at T;simp only[cz,au]at T;subst T;rcases agX with cq|cq
   .exact .inl cq
   .refine .inr ⟨q,_,D,?_,by rw[hγ,cq]⟩;simp[aC,Ne.symm VE]
  .split at U<;>simp at U
 .intro k z' l;simp only[aC]at l;split at l
  .simp only[au]at l;subst l;intro j U;simp[Info.ak,AV.ak,C.ak]at U;exact .inr U
  .split at l
   .simp only[au]at l;subst l;exact λj U=> .inl<|I j U
   .split at l<;>simp at l
 .intro j z' l;simp only[aC,reduceCtorEq,bL]at l;split at l
  .rename_i e';simp only[Key.m.injEq]at e';exact .inr e'.symm
  .split at l<;>simp at l
end
section
variable{P:bS}{tt:TT}
def agY{ops}{i}{o:aX}{d:Y}(ho:ops[i]? =ad o)(hg:o.guard=none)(hd:o.dst=ad d){n}(di:d<n){x cp}{t1 t2}(bU:o.op= .call ⟨.builtin .copy,#[x,cp],#[t1,t2]⟩)
 {st}{be}{sz bytes}(hT:Cv P t1 t2 be sz bytes) {B l len:Y} {VF:ar Y} {vy:AV} (hx:st.ev x=ad (.c<|.L B l len VF)) (hy:st.ev cp=ad vy) {Eb:dM} {bz:Y} {nV:V C} (hl:S B st.mem=ad (.box Eb bz nV)) {m:Y} {cs:V C} {is:V Y} (hs:sQ st sz vy=ad (m,cs,is)) (oR:cs.all jH=ae)
  (hle:m<=len) (JB:l+m*sz<=Z nV) (new:Y):
  g6 P n ops i (cC st x++cC st cp++ff st (B::is)) [(.s d,ad<|.v<|.c<|.I .i64 m),(.m B,ad<|.b<|.box Eb bz<|cM nV cs l)] new:=by
 intro F kC Q known σ g W a K D aN X hK
 have G:=du aN st x _ hx<|λM bZ=>X M dR
 have sO:=du aN st cp _ hy<|λM bZ=>X M dR
 have N:=vZ (st:=st) (ids:=B::is) (σ:=σ)<|λM bZ=>X M JD
 let ⟨e2,iv⟩:=hT.u2
 let ⟨inf,z,R,T,Cs,vT,sL⟩:=hT.info
 let ⟨us,H,v3,qi,v5⟩:=z4 (P:=P) aN hs sO (λB eF b hb=>N B (jF _ eF) b hb) iv oR
 have p:=N B ax _ hl
 let ⟨b,vs,rest,q,hh,hr,hN,hz,vY⟩:=aN.cL B _ p
 have r:∃c,a.eval x= .slice (ad ⟨b,l,none⟩) len c:=by
  cases VF with
  |some c=>
   let ⟨b',h1,h2⟩:=G
   rw[q]at h1
   cases h1
   exact⟨c,h2⟩
  |none=>
   let ⟨h0,b',c,h1,h2,_⟩:=G
   rw[h1]at q
   simp only[cz,au]at q
   subst q h0
   exact⟨c,h2⟩
 let ⟨c,r⟩:=r
 have mb:=H.newsLen
 have q9:=v3.length
 have sH:=hr.length
 have w:l+Z us<=Z vs:=O
 have sS:=zC (P:=P) b us W (vs++rest) l 0 hh bV v5
 simp only[iR]at sS
 have z5:cM (vs++rest) us l=cM vs us l++rest:=Oe vs rest us _ w
 have iS:(Builtin.copy_ #[t1,t2] o.type #[a.eval x,a.eval cp]).run P W= .ok (.int .i64 m) (iH W b (cM (vs++rest) us l) Eb):=by rw[r];have OT:Nat.min m len=m:=q7 hle;have hc:=H.cells;simp[Builtin.copy_,run_underlying hT.u1,sizeOf,typeInfo,R,H.len,OT,T,hc,sS,goInt,jG,pure]
 have hex:(execOp a.eval o).run P W= .ok (.value<|.int .i64 m) (iH W b (cM (vs++rest) us l) Eb):=by refine Cq bU<|λcs=>?_;have e:(#[x,cp]:Array dS).map a.eval= #[a.eval x,a.eval cp]:=ax;rw[e];simp only[Jt,cZ,iS,de];rfl
 unfold wpOp
 simp only[ho,hZ,hg,b7]
 refine .inl ?_
 unfold mO
 rw[hex]
 simp only[mP,hd]
 have vV:d<a.tmps.size:=l0
 have hb:b<W.heap.size:=(fT.1 hh).1
 refine hK g _ _<|aN.step (chg:=λj=>j=B) (g':=g) ⟨⟨cD.refl _,λ_ _=>rfl⟩,λ_ _ _=>rfl,zD aN.sub hz,zF,?_,J,J,J⟩ _ new D mL aN.defers (λt A=>Fs A) ?_ ?_ ?_ ?_ ?_
 .intro k hk fe;have:b≠k:=λe=>fe B J (by rw[q,e])
  exact xE this
 .intro j U;subst U;exact⟨xH,_,p⟩
 .intro t u A;simp only[aC]at A;split at A
  .rename_i e;simp only[Key.s.injEq]at e;simp only[au,Info.v.injEq]at A;subst e;subst A;simp[gT,vV,bA,cQ]
  .simp at A
 .intro j bk U;simp only[aC,reduceCtorEq,bL]at U;split at U
  .rename_i e';simp only[Key.m.injEq]at e';subst e';simp only[au,Info.b.injEq]at U;subst U;refine⟨⟨b,cM vs us l,rest,q,by rw[xD hb,z5],hr.cM v3 _,hN,hz,λh0=>?_⟩,.inl ⟨aN.dQ _ _ p,_,p⟩⟩;let ⟨c',e1,e2⟩:=vY h0;refine⟨c',e1,?_⟩;rw[<-z5,xF _ _ _ bV];exact e2
  .simp at U
 .intro k z' f;simp only[aC]at f;split at f
  .simp only[au]at f;subst f;intro j U;simp[Info.ak,AV.ak,C.ak]at U
  .split at f
   .simp only[au]at f;subst f;intro j U;rcases ES _ _ _ j U with h|h
    .exact .inl<|aN.ak _ _ p j h
    .exact .inl<|qi j h
   .simp at f
 .intro j z' f;simp only[aC,reduceCtorEq,bL]at f;split at f
  .rename_i e';simp only[Key.m.injEq]at e';subst e';exact .inl<|aN.dQ _ _ p
  .simp at f
def rE(a:St):V dS->ar (V<|Bool×V C)
 |[]=>ad []
 |x::xs=>(match a.ev x with
  |some v=>(match qf v,rE a xs with
   |some s,ad d=>ad<|s::d
   |_,_=>none)
  |none=>none)
def JF{v}{s}(d:qf v=ad s):bP s.2=v.ak:=by
 cases v with
 |c x=>simp only[qf,au]at d;subst d;simp[bP,AV.ak]
 |a cs=>simp only[qf,au]at d;subst d;rfl
 |t _=>simp[qf]at d
def OU{F:eK}{e:Y->Prop}{t:Kn}{g:Gh}{W:cE}{a:Act}(m:br F e t g W a)(i:St):∀(xs:V dS)(k:V (Bool×V C)),rE i xs=ad k->
  (∀f∈xs.flatMap (cC i),t f.1=ad f.2)->fa g k (xs.map a.eval)/\∀l∈eo k,e l
 |[],k,he,_=>by simp only[rE,au]at he;subst he;exact⟨J,by simp[eo]⟩
 |x::xs,k,he,n=>by
  simp only[rE]at he;split at he
  .rename_i v u;split at he
   .rename_i s H B o;simp only[au]at he;subst he;have L:=du m i x v u<|λf bZ=>n f dR;have p:=rh m i x v u<|λf bZ=>n f dR;let ⟨h2,q⟩:=OU m i xs H o (λf bZ=>n f<|by simp only[kD,aY];exact .inr bZ);refine⟨⟨_,_,J,Ox B L,h2⟩,?_⟩;intro l d;simp only[eo,aY]at d;rcases d with d|d
    .rw[JF B]at d;exact p l d
    .exact q l d
   .simp at he
  .simp at he
def VG{ops}{i}{o:aX}{d:Y}(ho:ops[i]? =ad o)(hg:o.guard=none)(hd:o.dst=ad d){n}(di:d<n){f}{first p}(bU:o.op= .makeFunc (.func f) first p)
 {st}{fs cs}(hf:rE st first.toList=ad fs) (hc:rE st p.toList=ad cs) new:
  g6 P n ops i ((first.toList++p.toList).flatMap<|cC st) [(.s d,ad<|.v<|.c<|.X new),(.m new,ad<|.b<|.gM f fs cs)] new:=by
 intro F kC Q U V g W a K L aN z R
 let ⟨G,A⟩:=OU aN st _ _ hf (λI j=>z I<|by rw[Cy];exact dY _ j)
 let ⟨M,D⟩:=OU aN st _ _ hc (λI j=>z I<|by rw[Cy];exact fU _ j)
 have N:(execOp a.eval o).run P W= .ok (.value<|.func (.func f) (first.toList.map a.eval).toArray (p.toList.map a.eval).toArray) W:=by rw[execOp,bU];have S:first.map a.eval=(first.toList.map a.eval).toArray:=zL;have T:p.map a.eval=(p.toList.map a.eval).toArray:=zL;simp only[Instr.makeFunc,S,T];rfl
 unfold wpOp
 simp only[ho,hZ,hg,b7]
 refine .inl ?_
 unfold mO
 rw[N]
 simp only[mP,hd]
 have E:d<a.tmps.size:=l0
 let v:aO:= .func (.func f) (first.toList.map a.eval).toArray (p.toList.map a.eval).toArray
 let r:Gh:=⟨g.H,λB=>if B=new then v else g.γ B⟩
 have w:r.γ new=v:=by simp[r]
 have x:fP U g r:=⟨cD.refl _,λB q=>by
  have:B≠new:=λe=>L<|e▸q
  simp[r,this]⟩
 refine R r _ _<|aN.step (chg:=λ_=>False) (g':=r) ⟨x,λ_ _ _=>rfl,aN.sub,aW _,λ_ _ _=>rfl,J,J,J⟩ _ new L mL aN.defers (λt l=>Fs l) (λ_ h=>h.elim) ?_ ?_ ?_ ?_
 .intro t u l;simp only[aC]at l;split at l
  .rename_i e;simp only[Key.s.injEq]at e;simp only[au,Info.v.injEq]at l;subst e;subst l;show _=r.γ new;rw[w];simp[gT,E,v]
  .simp at l
 .intro B b l;simp only[aC,reduceCtorEq,bL]at l;split at l
  .rename_i e;simp only[Key.m.injEq]at e;subst e;simp only[au,Info.b.injEq]at l;subst l;refine⟨⟨_,_,w,fa.mono x A G,fa.mono x D M⟩,.inr ⟨J,λk O=>?_⟩⟩;rw[w]at O;simp[cz,v]at O
  .simp at l
 .intro k y l;simp only[aC]at l;split at l
  .simp only[au]at l;subst l;intro B q;simp[Info.ak,AV.ak,C.ak]at q;exact .inr q
  .split at l
   .simp only[au]at l;subst l;intro B q;rcases aY.1 q with h|h
    .exact .inl<|A B h
    .exact .inl<|D B h
   .simp at l
 .intro B y l;simp only[aC,reduceCtorEq,bL]at l;split at l
  .rename_i e;simp only[Key.m.injEq]at e;exact .inr e.symm
  .simp at l
end
def me(a:V aO):Act:={tmps:=a.toArray,defers:=[]}
structure CX(P:bS)(f:FuncId)(vs:V AV)(fm:V (Y×aE))(k:Y)(r:AV)(a:V (Y×aE))(i:Y):Prop where
 call:nS P f=ae
 le:k<=i
 spec:∀(F:eK)(g:Gh)(W:cE)(d:V aO),F.n=vs.length->d.length=vs.length->br F (·<k) (St.kn ⟨dr 0 vs,fm,0,[]⟩) g W (me d)->
  Calls P f d.toArray W (λe l=>∃v m,e= .returned v/\br {F with n:=1} (·<i) (St.kn ⟨[(0,r)],a,0,[]⟩) m l (me [v]))
def nW(a:V (Y×aE)):V (Y×aE)->V (Key×ar Info)
 |[]=>[]
 | (id,_)::d=>(.m id,(S id a).map .b)::nW a d
def jZ(k:Y):V (Y×aE)->V (Key×ar Info)
 |[]=>[]
 | (id,d)::a=>if k<=id then(.m id,ad<|.b d)::jZ k a else jZ k a
def sT{u v:V (Key×ar Info)}{k:Key}:aC (u++v) k=match aC u k with|some x=>ad x|none=>aC v k:=by
 induction u with
 |nil=>rfl
 |cons p u a=>
  let ⟨d,x⟩:=p
  simp only[lY,aC]
  split
  .rfl
  .exact a
def Cz(a:V (Y×aE))(t:Y):∀fm,aC (nW a fm) (.s t)=none
 |[]=>rfl
 | (id,e)::d=>by simp[nW,aC,Cz a t d]
def xU(k:Y)(t:Y):∀fm,aC (jZ k fm) (.s t)=none
 |[]=>rfl
 | (id,d)::a=>by
  simp only[jZ];split
  .simp[aC,xU k t a]
  .exact xU k t a
def Fu(a:V (Y×aE))(d:Y):∀fm:V (Y×aE),aC (nW a fm) (.m d)=if(S d fm).isSome then ad ((S d a).map .b)else none
 |[]=>rfl
 | (id,g)::f=>by
  simp only[nW,aC,S,Key.m.injEq];by_cases e:id=d
  .simp[e]
  .simp only[e,bL];exact Fu a d f
def xV(k a:Y):∀fm:V (Y×aE),aC (jZ k fm) (.m a)=if k<=a then(S a fm).map (λg=>ad<|.b g)else none
 |[]=>by simp[jZ,aC,S]
 | (id,g)::f=>by
  simp only[jZ,S];by_cases d:k<=id
  .simp only[d,b7,aC,Key.m.injEq];by_cases e:id=a
   .subst e;simp[d]
   .simp only[e,bL];exact xV k a f
  .simp only[d,bL];by_cases e:id=a
   .subst e;rw[xV k id f];simp[d]
   .simp only[e,bL];exact xV k a f
def xW(k:Y)(fm:V (Y×aE)):V Y->Bool
 |[]=>ae
 |id::a=>(dT k id||(S id fm).isSome)&&xW k fm a
def xX(k:Y)(fm:V (Y×aE)):V (Y×aE)->Bool
 |[]=>ae
 | (id,a)::d=>(dT k id||(S id fm).isSome)&&xW k fm a.ak&&xX k fm d
def OV{k:Y}{fm:V (Y×aE)}:∀{l:V Y},xW k fm l=ae->∀d∈l,k<=d\/∃g,S d fm=ad g
 |[],_,_,a=>by cases a
 |i::m,e,d,a=>by
  simp only[xW,cw,xK]at e;rcases bX.1 a with rfl|a
  .rcases e.1 with f|f
   .exact .inl<|c9 f
   .exact .inr<|Fv.1 f
  .exact OV e.2 d a
def OW{k:Y}{fm:V (Y×aE)}:∀{l:V (Y×aE)},xX k fm l=ae->∀f a,S f l=ad a->(k<=f\/∃a,S f fm=ad a)/\∀i∈a.ak,k<=i\/∃a,S i fm=ad a
 |[],_,_,_,d=>by simp[S]at d
 | (i,x)::n,g,f,a,d=>by
  simp only[xX,cw,xK]at g;simp only[S]at d;split at d
  .rename_i e;subst e;cases d;refine⟨?_,OV g.1.2⟩;rcases g.1.1 with m|m
   .exact .inl<|c9 m
   .exact .inr<|Fv.1 m
  .exact OW g.2 f a d
def fB.xY{L F:Y->Prop}{g u}{W}{q}{a}(l:fB L g W q a)(s:∀k,cz (g.γ q)=ad k->F k)(hγ:u.γ q=g.γ q)(hH:u.H=g.H)(o:fP (λp=>p∈a.ak) g u):fB F u W q a:=by
 cases a with
 |box E sz cs=>
  let ⟨a,vs,rest,e,d,t,v,hz,hc⟩:=l
  exact⟨a,vs,rest,oS,d,aR.mono o (λp i=>i) t,s a e,Fw,by rw[hγ];exact hc⟩
 |vec E T xs=>
  rcases l with⟨e,P⟩|⟨a,x,vs,e,d,B,C,Q,U,v,hz⟩
  .exact .inl ⟨oS,P⟩
  .exact .inr ⟨a,x,vs,oS,d,B,C,Q,by rw[hH];exact U,s a tS,Fw⟩
 |gM f first K=>
  let ⟨us,ws,e,B,C⟩:=l
  exact⟨us,ws,oS,fa.mono o (λp i=>dY _ i) B,fa.mono o (λp i=>fU _ i) C⟩
 |fz E cs=>
  let ⟨a,vs,rest,e,d,t,v,hz⟩:=l
  exact⟨a,vs,rest,oS,d,aR.mono o (λp i=>i) t,s a e,Fw⟩
 |mp c w xs=>
  let ⟨r,es,e,d,t,v,hz⟩:=l
  exact⟨r,es,oS,d,g5.mono o (λp i=>i) t,s r tS,Fw⟩
 |it m n seen=>
  let ⟨r,a,e,X,d,v,hz⟩:=l
  exact⟨r,a,oS,by rw[o.γ m (by simp[aE.ak])];exact X,d,s r tS,Fw⟩
def fB.v7{known:Y->Prop}{zZ:Y->Prop}{g F}{W W'}{s}{a}(v:fB zZ g W s a)(t:fP known g F)(L:known s)(x:∀B∈a.ak,known B)
  (l:∀k,cz (g.γ s)=ad k->W'.heap[k]? =W.heap[k]? /\∀o,F.H k o=g.H k o):fB zZ F W' s a:=by
 have hγ:=t.γ s L
 cases a with
 |box E sz cs=>
  let ⟨a,vs,rest,e,d,C,p,q,hc⟩:=v
  exact⟨a,vs,rest,oS,by rw[(l a e).1];exact d,aR.mono t x C,p,λo=>by rw[(l a e).2];exact q o,by rw[hγ];exact hc⟩
 |vec E T xs=>
  rcases v with⟨e,K⟩|⟨a,P,vs,e,K,d,Q,c,w,p,q⟩
  .exact .inl ⟨oS,K⟩
  .have u:cz (g.γ s)=ad a:=by rw[e];rfl
   exact .inr ⟨a,P,vs,oS,by rw[(l a u).1];exact K,d,Q,c,λi y=>cV.mono t.H T _ _<|w i y,p,λo=>by rw[(l a u).2];exact q o⟩
 |gM f first X=>
  let ⟨us,ws,e,d,Q⟩:=v
  exact⟨us,ws,oS,fa.mono t (λB U=>x B<|dY _ U) d,fa.mono t (λB U=>x B<|fU _ U) Q⟩
 |fz E cs=>
  let ⟨a,vs,rest,e,d,C,p,q⟩:=v
  exact⟨a,vs,rest,oS,by rw[(l a e).1];exact d,aR.mono t x C,p,λo=>by rw[(l a e).2];exact q o⟩
 |mp A D xs=>
  let ⟨r,es,e,d,C,p,q⟩:=v
  have u:cz (g.γ s)=ad r:=tS
  exact⟨r,es,oS,by rw[(l r u).1];exact d,g5.mono t x C,p,λo=>by rw[(l r u).2];exact q o⟩
 |it m n seen=>
  let ⟨r,a,e,z,d,p,q⟩:=v
  have u:cz (g.γ s)=ad r:=tS
  exact⟨r,a,oS,by rw[t.γ m (x m<|by simp[aE.ak])];exact z,by rw[(l r u).1];exact d,p,λo=>by rw[(l r u).2];exact q o⟩
section
variable{P:bS}{tt:TT}
def VH{k:St}{F:eK}{e:Y->Prop}{n:Kn}{g:Gh}{W:cE}{a:Act}(o:br F e n g W a):∀(xs:V dS)(vs:V AV),jv k xs=ad vs->(∀f∈xs.flatMap (cC k),n f.1=ad f.2)->∀i∈cF vs,e i
 |[],vs,he,_,i,d=>by simp only[jv,au]at he;subst he;cases d
 |x::xs,vs,he,p,i,d=>by
  simp only[jv]at he;split at he
  .rename_i v l q m;simp only[au]at he;subst he;simp only[cF,aY]at d;rcases d with d|d
   .exact rh o k x v q (λf bZ=>p f dR) i d
   .exact VH o xs l m (λf bZ=>p f<|by simp only[kD,aY];exact .inr bZ) i d
  .simp at he
def VI{f}{vs}{fm jw}{k k'}{aV}(hf:CX P f vs fm k aV jw k')(OX:∀l∈cF vs,l<k)(mc:∀l q,S l fm=ad q->l<k/\∀B∈q.ak,B<k)(OY:∀l∈aV.ak,k<=l\/∃q,S l fm=ad q)
  (Fy:∀l q,S l jw=ad q->S l fm=ad q\/∀B∈q.ak,k<=B\/∃q,S B fm=ad q)
 {Fc}{U:Y->Prop} {σ}{g}{W}{a}(p:br Fc U σ g W a) (zr:∀l,(k<=l/\l<k')->¬U l) {us}(JG:eQ g vs us) (VJ:∀l∈cF vs,U l)
  (fc:∀l q,S l fm=ad q->σ (.m l)=ad (.b q)) {d}(hd:d<a.tmps.size):
  Calls P f us.toArray W (λe W'=>∃v g',e= .returned v/\br Fc (λl=>U l\/(k<=l/\l<k')) (bq σ<|(.s d,ad<|.v aV)::(nW jw fm++jZ k jw)) g' W' (a.put (ad d) v)):=by
 have mb:=xM JG
 let F:eK:={w0:=W,H0:=g.H,n:=Z vs,own:=λq=>∃l bb,S l fm=ad bb/\cz (g.γ l)=ad q,k0:=k,γ0:=g.γ}
 have hN:∀q,F.N q->q<W.heap.size->Fc.N q:=by
  intro q L gN;rcases L with L|⟨l,bb,X,h2⟩
  .exact absurd L (O:¬W.heap.size<=q)
  .exact((p.cL l bb<|fc l bb X).block h2).1
 have OZ:∀q,F.N q->Fc.N q:=by
  intro q L;rcases L with L|⟨l,bb,X,h2⟩
  .exact .inl<|bQ p.below.size L
  .exact((p.cL l bb<|fc l bb X).block h2).1
 have h0:br F (·<k) (St.kn ⟨dr 0 vs,fm,0,[]⟩) g W (me us):=by
  refine⟨by simp[me,F,mb],J,?_,?_,?_,?_,?_,p.sub,⟨J,J,J,aW _,λ_ _ _=>rfl⟩,cD.refl _,λ_ _ _ _=>rfl,λl C=>⟨C,J⟩⟩
  .intro t v ht;simp only[St.kn,cu]at ht;let ⟨x,hx,he⟩:=ht;cases he;let ⟨_,u,hu,hr,_⟩:=mW vs us 0 JG t v hx;have vz:us[t]? =ad u:=vN;simp only[me,nQ,tW,vz,pS];exact hr
  .intro l q L;simp only[St.kn,cu]at L;let ⟨x,hx,he⟩:=L;cases he;exact(p.cL l q<|fc l q hx).xY (λK kH=> .inr ⟨l,q,hx,kH⟩) J J ⟨cD.refl _,λ_ _=>rfl⟩
  .intro l nz q b' K L kZ X h2;simp only[St.kn,cu]at L kZ;let ⟨x,hx,he⟩:=L;let ⟨x',O0,Fz⟩:=kZ;cases he;cases Fz;exact p.inj l nz q b' K (fc l q hx) (fc nz b' O0) X h2
  .intro key x hx l C;cases key with
   |s t=>
    simp only[St.kn,cu]at hx
    let ⟨y,hy,he⟩:=hx
    subst he
    let ⟨_,_,_,_,h6⟩:=mW vs us 0 JG t y hy
    exact OX l<|h6 l C
   |m B=>
    simp only[St.kn,cu]at hx
    let ⟨y,hy,he⟩:=hx
    subst he
    exact(mc B y hy).2 l C
  .intro l x hx;simp only[St.kn,cu]at hx;let ⟨y,hy,he⟩:=hx;exact(mc l y hy).1
 refine(hf.spec F g W us J mb h0).mono ?_
 rintro e W' ⟨v,g',rfl,X⟩
 refine⟨v,⟨g'.H,λl=>if k<=l/\l<k' then g'.γ l else g.γ l⟩,J,?_⟩
 generalize O1:(⟨g'.H,λl=>if k<=l/\l<k' then g'.γ l else g.γ l⟩:Gh)=g2
 have T:g2.H=g'.H:=by rw[<-O1]
 have VK:∀l,g2.γ l=if k<=l/\l<k' then g'.γ l else g.γ l:=by rw[<-O1];intro l;rfl
 have D:∀l,l<k'->g2.γ l=g'.γ l:=by
  intro l C;rw[VK];split
  .rfl
  .rename_i hn;exact(X.fS l (O:l<k)).2.symm
 have V:fP (·<k') g' g2:=⟨by rw[T];exact cD.refl _,λl C=>D l C⟩
 have Q:fP U g g2:=⟨by rw[T];exact X.le,λl C=>by rw[VK,w];intro hc;exact zr l hc C⟩
 have VL:∀l q,S l fm=ad q->U l:=λl q L=>p.dQ _ _<|fc l q L
 have z3:∀l,(k<=l\/∃q,S l fm=ad q)->l<k'->U l\/(k<=l/\l<k'):=by
  intro l h h2;rcases h with h|⟨q,L⟩
  .exact .inr ⟨h,h2⟩
  .exact .inl<|VL l q L
 have VM:∀l∈aV.ak,l<k':=λl C=>X.ak (.s 0) (.v aV) (by simp[St.kn,S]) l C
 have z:∀K,K<W.heap.size->¬F.own K->W'.heap[K]? =W.heap[K]? /\∀o,g'.H K o=g.H K o:=λK I A=>⟨X.below.block K I A,λo=>X.fresh K o I A⟩
 have O2:∀B,aC ((.s d,ad<|.v aV)::(nW jw fm++jZ k jw)) (.m B)=if(S B fm).isSome then ad ((S B jw).map .b)else if k<=B then(S B jw).map (λq=>ad<|.b q)else none:=by
  intro B;simp only[aC,reduceCtorEq,bL,sT,Fu,xV];by_cases h:(S B fm).isSome=ae
  .simp[h]
  .simp[h]
 have E:∀B q,bq σ ((.s d,ad<|.v aV)::(nW jw fm++jZ k jw)) (.m B)=ad (.b q)->(S B jw=ad q/\B<k')\/(S B fm=none/\σ (.m B)=ad (.b q)/\U B):=by
  intro B q L;simp only[bq,O2]at L;by_cases h:(S B fm).isSome=ae
  .simp only[h,b7,cu]at L;let ⟨x,hx,he⟩:=L;cases he;exact .inl ⟨hx,X.dQ B (.b q)<|by simp[St.kn,hx]⟩
  .have A:S B fm=none:=by simpa using h
   simp only[h,bL,hY]at L;by_cases I:k<=B
   .simp only[I,b7]at L;cases hx:S B jw with
    |none=>
     rw[hx]at L
     simp only[Option.map_none]at L
     exact .inr ⟨A,L,p.dQ _ _ L⟩
    |some x=>
     rw[hx]at L
     simp only[uh,au,Info.b.injEq]at L
     subst L
     exact .inl ⟨J,X.dQ B (.b x)<|by simp[St.kn,hx]⟩
   .simp only[I,bL]at L;exact .inr ⟨A,L,p.dQ _ _ L⟩
 have c:∀B q K,S B fm=none->σ (.m B)=ad (.b q)->cz (g.γ B)=ad K->K<W.heap.size/\¬F.own K:=by intro B q K h2 G h4;refine⟨((p.cL B q G).block h4).2,?_⟩;rintro⟨l,bb,h5,h6⟩;have:=p.inj B l q bb K G (fc l bb h5) h4 h6;subst this;rw[h2]at h5;cases h5
 refine⟨by simp[gT,p.size],p.defers,?_,?_,?_,?_,?_,by rw[T];exact X.sub,?_,by rw[T];exact p.le.trans X.le,?_,?_⟩
 .intro t u ht;simp only[bq,aC,sT,Cz,xU]at ht;by_cases e:d=t
  .subst e;simp only[b7,au,Info.v.injEq]at ht;subst ht;have hr:=X.eE 0 aV (by simp[St.kn,S]);have hv:(a.put (ad d) v).tmps.getD d undef=v:=by simp[gT,hd]
   rw[hv];exact bA.mono V VM (by simpa[me]using hr)
  .have e':¬(Key.s d=Key.s t):=λh=>e dL
   simp only[e',bL]at ht;have hv:(a.put (ad d) v).tmps.getD t undef=a.tmps.getD t undef:=by simp[gT,lC e]
   rw[hv];exact bA.mono Q (λl C=>p.ak _ _ ht l C)<|p.eE t u ht
 .intro B q L;rcases E B q L with⟨h2,G⟩|⟨h2,G,h4⟩
  .have xZ:=X.cL B q FA;exact xZ.xY (λK kH=>OZ K (xZ.block kH).1) (D B G) T ⟨V.H,λi hi=>V.γ i<|X.ak (.m B) (.b q) FA i hi⟩
  .refine(p.cL B q G).v7 Q h4 (λi hi=>p.ak _ _ G i hi)<|λK kH=>?_;let ⟨h5,h6⟩:=c B q K h2 G kH;rw[T];exact z K h5 h6
 .intro B j' q b' K L kZ M R;rcases E B q L with⟨h2,G⟩|⟨h2,G,h4⟩<;>rcases E j' b' kZ with⟨CA,z6⟩|⟨CA,z6,Ix⟩
  .rw[D B G]at M;rw[D j' z6]at R;exact X.inj B j' q b' K FA (by simp[St.kn,CA]) M R
  .exfalso;rw[D B G]at M;rw[Q.γ j' Ix]at R;let ⟨h5,h6⟩:=c j' b' K CA z6 R;rcases((X.cL B q FA).block M).1 with h7|h7
   .exact absurd h7 (O:¬W.heap.size<=K)
   .exact h6 h7
  .exfalso;rw[D j' z6]at R;rw[Q.γ B h4]at M;let ⟨h5,h6⟩:=c B q K h2 G M;rcases((X.cL j' b'<|by simp[St.kn,CA]).block R).1 with h7|h7
   .exact absurd h7 (O:¬W.heap.size<=K)
   .exact h6 h7
  .rw[Q.γ B h4]at M;rw[Q.γ j' Ix]at R;exact p.inj B j' q b' K G z6 M R
 .intro key x hx l C;cases key with
  |s t=>
   simp only[bq,aC,sT,Cz,xU]at hx
   by_cases e:d=t
   .subst e;simp only[b7,au]at hx;subst hx;exact z3 l (OY l C)<|VM l C
   .have e':¬(Key.s d=Key.s t):=λh=>e dL
    simp only[e',bL]at hx;exact .inl<|p.ak _ _ hx l C
  |m B=>
   cases x with
   |v u=>
    simp only[bq,O2]at hx
    by_cases h:(S B fm).isSome=ae
    .simp only[h,b7,cu]at hx;let ⟨_,_,he⟩:=hx;cases he
    .simp only[h,bL,hY]at hx;by_cases I:k<=B
     .simp only[I,b7]at hx;cases hy:S B jw with
      |none=>rw[hy]at hx;exact .inl<|p.ak (.m B) (.v u) CB l C
      |some y=>rw[hy]at hx;simp at hx
     .simp only[I,bL]at hx;exact .inl<|p.ak _ _ hx l C
   |b q=>
    rcases E B q hx with⟨h2,G⟩|⟨h2,G,h4⟩
    .rcases Fy B q h2 with h7|h7
     .exact .inl<|p.ak _ _ (fc B q h7) l C
     .exact z3 l (h7 l C)<|X.ak (.m B) (.b q) FA l C
    .exact .inl<|p.ak _ _ G l C
 .intro B x hx;simp only[bq,O2]at hx;by_cases h:(S B fm).isSome=ae
  .let ⟨q,L⟩:=Fv.1 h;exact .inl<|VL B q L
  .simp only[h,bL,hY]at hx;by_cases I:k<=B
   .simp only[I,b7]at hx;cases hy:S B jw with
    |none=>rw[hy]at hx;exact .inl<|p.dQ _ _ CB
    |some y=>exact .inr ⟨I,X.dQ B (.b y)<|by simp[St.kn,hy]⟩
   .simp only[I,bL]at hx;exact .inl<|p.dQ _ _ hx
 .refine⟨X.below.os.trans p.below.os,X.below.tape.trans p.below.tape,X.below.output.trans p.below.output,bQ p.below.size X.below.size,λK I A=>?_⟩;have gN:K<W.heap.size:=hP I p.below.size;rw[<-p.below.block K I A];refine(z K gN<|λho=>?_).1;rcases hN K (.inr ho) gN with h2|h2
  .omega
  .exact A h2
 .intro K o I A;have gN:K<W.heap.size:=hP I p.below.size;rw[T,(z K gN<|λho=>?_).2 o]
  .exact p.fresh K o I A
  .rcases hN K (.inr ho) gN with h2|h2
   .omega
   .exact A h2
 .intro l C;let ⟨h2,G⟩:=p.fS l C;exact⟨.inl h2,by rw[Q.γ l h2];exact G⟩
def agZ{f}{vs}{fm n}{k t}{u}(hf:CX P f vs fm k u n t)(x:vM k (cF vs)=ae)(B:ug k fm=ae)(F:xW k fm u.ak=ae)(H:xX k fm n=ae)
 {Fc}{i:Y->Prop} {L}{g}{W}{a}(p:br Fc i L g W a) (q:∀l,(k<=l/\l<t)->¬i l) {us}(Q:eQ g vs us) (U:∀l∈cF vs,i l)
  (fc:∀l o,S l fm=ad o->L (.m l)=ad (.b o)) {d}(hd:d<a.tmps.size):
  Calls P f us.toArray W (λe W'=>∃v g',e= .returned v/\br Fc (λl=>i l\/(k<=l/\l<t)) (bq L<|(.s d,ad<|.v u)::(nW n fm++jZ k n)) g' W' (a.put (ad d) v)):=
 VI hf (Jb x) (λl o h=>Jc B l o h) (OV F) (λl o h=> .inr (OW H l o h).2) p q Q U fc hd
end
def FB:Bool×V C->ar AV
 | (ae,cs)=>ad<|.a cs
 | (false,[d])=>ad<|.c d
 |_=>none
def rF:V (Bool×V C)->ar (V AV)
 |[]=>ad []
 |s::a=>(match FB s,rF a with
  |some v,ad vs=>ad<|v::vs
  |_,_=>none)
def uo(d:St)(e:dS)(args:V dS):ar (FuncId×V AV×V Y):=match jv d args with
 |some vs=>(match d.ev e with
  |some (.c<|.V<|.func (.func f) ⟨[]⟩ ⟨[]⟩)=>ad (f,vs,[])
  |some (.c<|.X id)=>(match S id d.mem with
   |some (.gM f first a)=>(match rF first,rF a with
    |some us,ad ws=>ad (f,us++(vs++ws),[id])
    |_,_=>none)
   |_=>none)
  |_=>none)
 |none=>none
def JH{g:Gh}:∀{l:V (Bool×V C)}{vs:V AV}{f:V aO},rF l=ad vs->fa g l f->eQ g vs f
 |[],vs,f,a,i=>by simp only[rF,au]at a;subst a;exact i
 |s::p,vs,f,a,i=>by
  simp only[rF]at a;split at a
  .rename_i v m d n;simp only[au]at a;subst a;obtain⟨u,k,rfl,e,o⟩:=i;refine⟨u,k,J,?_,JH n o⟩;match s,d,e with
   | (ae,cs),d,e=>simp only[FB,au]at d;subst d;exact e
   | (false,[c]),d,e=>simp only[FB,au]at d;subst d;exact e
  .simp at a
def CC:∀{g:V (Bool×V C)}{vs:V AV},rF g=ad vs->∀f∈cF vs,f∈eo g
 |[],vs,d,f,a=>by simp only[rF,au]at d;subst d;cases a
 |s::l,vs,d,f,a=>by
  simp only[rF]at d;split at d
  .rename_i v i e k;simp only[au]at d;subst d;simp only[cF,aY]at a;simp only[eo,aY];rcases a with a|a
   .left;match s,e with
    | (ae,cs),e=>simp only[FB,au]at e;subst e;exact a
    | (false,[m]),e=>simp only[FB,au]at e;subst e;simpa[bP,AV.ak]using a
   .exact .inr<|CC k f a
  .simp at d
def eQ.append{g:Gh}:∀{xs d:V AV}{e f:V aO},eQ g xs e->eQ g d f->eQ g (xs++d) (e++f)
 |[],_,_,_,a,h2=>by simp only[eQ]at a;subst a;exact h2
 |x::xs,_,_,_,a,h2=>by obtain⟨u,i,rfl,k,l⟩:=a;exact⟨u,i++_,J,k,eQ.append l h2⟩
def JI xs a:cF (xs++a)=cF xs++cF a:=by
 induction xs with
 |nil=>rfl
 |cons x xs d=>simp[cF,d]
section
variable{P:bS}{tt:TT}
def O3{f}{g d}{W}(a:nS P f=ae):(invoke (.fn (.func f) d) g).run P W= .ok (.enter f<|g++d) W:=by
 unfold nS at a;cases e:P.funcs[f]? with
 |none=>rw[e]at a;simp at a
 |some fn=>
  rw[e]at a
  simp only[cw,bne_iff_ne,ne_eq]at a
  have i:fn.body≠none:=by intro k;rw[k]at a;simp at a
  simp[invoke,callFunc,e,a.1,i]
def VN{F}{k:Y->Prop}{Q}{g}{W}{a}(d:br F k Q g W a){n}{o}{q}{args}{U}(v:o.op= .call ⟨.value q,args,U⟩){f}{vs}{x}(e:uo n q args.toList=ad (f,vs,x))(B:nS P f=ae)
  (l:∀i∈cC n q++args.toList.flatMap (cC n)++ff n x,Q i.1=ad i.2):∃us:V aO,(execOp a.eval o).run P W= .ok (.enter f us.toArray) W/\eQ g vs us/\∀u∈cF vs,k u:=by
 unfold uo at e
 split at e
 .rename_i z C;have r:=Cb d n _ _ C (λi bZ=>l i<|by simp only[aY];exact .inl<|.inr bZ);have H:=VH d _ _ C (λi bZ=>l i<|by simp only[aY];exact .inl<|.inr bZ);have m:args.map a.eval=(args.toList.map a.eval).toArray:=zL;split at e
  .rename_i w s;simp only[au,bG]at e;obtain⟨rfl,rfl,rfl⟩:=e;have X:a.eval q= .func (.func w) #[] #[]:=du d n q _ s (λi bZ=>l i<|by simp only[aY];exact .inl<|.inl bZ);refine⟨args.toList.map a.eval,?_,r,H⟩;rw[execOp,v];simp only[resolve,X,FC,pure_bind,O3 B,m];simp
  .rename_i u s;split at e
   .rename_i w first y A
    split at e
    .rename_i us G K L;simp only[au,bG]at e;obtain⟨rfl,rfl,rfl⟩:=e;have X:a.eval q=g.γ u:=du d n q _ s (λi bZ=>l i<|by simp only[aY];exact .inl<|.inl bZ);have t:=vZ (st:=n) (ids:=[u]) (σ:=Q) (λi bZ=>l i JD) u ax _ A;let ⟨D,E,b,c,h⟩:=d.cL u _ t;refine⟨D++(args.toList.map a.eval++E),?_,(JH K c).append<|r.append<|JH L h,?_⟩
     .rw[execOp,v];simp only[resolve,X,b,FC,pure_bind,O3 B,m];simp
     .intro j p;rw[JI,JI,aY,aY]at p;rcases p with p|p|p
      .exact d.ak _ _ t j<|dY _<|CC K j p
      .exact H j p
      .exact d.ak _ _ t j<|fU _<|CC L j p
    .simp at e
   .simp at e
  .simp at e
 .simp at e
def VO{H}{i}{o:aX}{d:Y}(ho:H[i]? =ad o)(hg:o.guard=none)(hd:o.dst=ad d){n}(di:d<n){cf}{args}{k6}(bU:o.op= .call ⟨.value cf,args,k6⟩)
 {u}{f}{vs:V AV} {L:V Y} (ht:uo u cf args.toList=ad (f,vs,L)) {fm q:V (Y×aE)} {k k':Y} {aV:AV} (hf:CX P f vs fm k aV q k') (OX:vM k (cF vs)=ae) (mc:ug k fm=ae) (OY:xW k fm aV.ak=ae) (Fy:xX k fm q=ae)
  (O4:∀m t,S m fm=ad t->S m u.mem=ad t):
  tT P n H i (cC u cf++args.toList.flatMap (cC u)++ff u L++ff u (fm.map (·.1))) ((.s d,ad<|.v aV)::(nW q fm++jZ k q)) (λm=>k<=m/\m<k'):=by
 intro F kC Q y G g W a K C aN U I
 let ⟨us,hex,X,z⟩:=VN aN bU ht hf.call<|λA B=>U A<|dY _ B
 have c:=vZ (st:=u) (ids:=fm.map (·.1)) (σ:=G)<|λA B=>U A<|fU _ B
 have D:∀{l:V (Y×aE)}{m:Y}{t:aE},S m l=ad t->m∈l.map (·.1):=by
  intro l;induction l with
  |nil=>intro m t h;simp[S]at h
  |cons p l J=>
   let ⟨j,x⟩:=p
   intro m t h
   simp only[S]at h
   split at h
   .rename_i e;simp[e]
   .exact jF _<|J h
 have w:d<a.tmps.size:=l0
 have M:=agZ hf OX mc OY Fy aN C X z (λm t E=>c m (D E) t<|O4 m t E) w
 unfold wpOp
 simp only[ho,hZ,hg,b7]
 refine .inl ?_
 unfold mO
 rw[hex]
 simp only[mP,hd]
 refine M.mono ?_
 rintro e N ⟨v,O,rfl,R⟩
 exact I O N _ R
def ag0{f}{vs}{aV}(p:r P f vs aV)(hm:cF vs=[]) fm k:CX P f vs fm k aV fm k:=by
 refine⟨p.call,aW _,?_⟩;intro F g W d hn R a;have A:eQ g vs d:=by
  have L:∀(vs:V AV)(d:V aO)(i:Y)(all:V aO),Z d=Z vs->(∀j,j<Z d->all[i+j]? =d[j]?)->(∀t v,S t (dr i vs)=ad v->bA g v (all.toArray.getD t undef))->eQ g vs d:=by
   intro vs;induction vs with
   |nil=>intro d i all hl _ _;exact fE tY
   |cons x vs ih=>
    intro d i all hl C M
    cases d with
    |nil=>simp at hl
    |cons u d=>
     refine⟨u,d,J,?_,ih d (i+1) all tY ?_ ?_⟩
     .have T:=M i x (by simp[dr,S]);have N:=C 0 ax;simp only[iR,l3]at N;simpa[N]using T
     .intro j hj;have:=C (j+1) nt;rw[(O:i+1+j=i+(j+1))];simpa using this
     .intro t v Q;refine M t v ?_;have fe:∀(l:V AV)(D:Y),i<D->∀v,S i (dr D l)=ad v->False:=by
       intro l;induction l with
       |nil=>intro D _ v p;simp[dr,S]at p
       |cons y l ihl=>
        intro D U v p
        simp only[dr,S]at p
        split at p
        .omega
        .exact ihl (D+1) O v p
      simp only[dr,S];split
      .rename_i e;subst e;exact(fe vs (i+1) O v Q).elim
      .exact Q
  exact L vs d 0 d R (λj hj=>ax) (λt v Q=>a.eE t v<|by simp[St.kn,Q])
 refine(p.spec g.H W d a.sub<|A.iy hm).mono ?_;rintro e W' ⟨v,H',rfl,M,hle,E,G,n⟩;refine⟨v,⟨H',g.γ⟩,J,⟨J,a.defers,?_,?_,?_,?_,?_,G,?_,a.le.trans hle,?_,a.fS⟩⟩
 .intro t u Q;simp only[St.kn,S,cu]at Q;let ⟨x,B,he⟩:=Q;cases he;split at B
  .rename_i e;subst e;cases B;have:=M.iy p.iy (cD.refl _) g.γ;simpa[me]using this
  .cases B
 .intro q b z;have X:St.kn ⟨dr 0 vs,fm,0,[]⟩ (.m q)=ad (.b b):=z;have K:=a.cL q b X;refine K.v7 (known:=(·<k)) ⟨hle,λ_ _=>rfl⟩ (a.dQ q _ X) (λj hj=>a.ak _ _ X j hj)<|λc kH=>?_;have U:=(K.block kH).2;exact⟨n.block c U,λo=>E c o U⟩
 .intro q nz b b' c z kZ T N;exact a.inj q nz b b' c z kZ T N
 .intro L x B q I;cases L with
  |m j=>exact a.ak (.m j) x B q I
  |s t=>
   simp only[St.kn,S,cu]at B
   let ⟨y,hy,he⟩:=B
   subst he
   split at hy
   .cases hy;have:q∈aV.ak:=I;rw[p.iy]at this;cases this
   .cases hy
 .intro q x B;exact a.dQ q x B
 .exact⟨n.os.trans a.below.os,n.tape.trans a.below.tape,n.output.trans a.below.output,bQ a.below.size n.size,λc hk w=>by rw[n.block c (hP hk a.below.size)];exact a.below.block c hk w⟩
 .intro b o z w;show H' b o=F.H0 b o;rw[E b o (hP z a.below.size)];exact a.fresh b o z w
end
def hJ{a:Type}(t:Y)(v:a):V (Y×a)->V (Y×a)
 |[]=>[(t,v)]
 | (k,x)::d=>if k=t then(t,v)::d else(k,x)::hJ t v d
def nA{d:Type}(t a:Y)(v:d):∀l:V (Y×d),S a (hJ t v l)=if t=a then ad v else S a l
 |[]=>by simp[hJ,S]
 | (k,x)::f=>by
  simp only[hJ];split
  .rename_i e;subst e;simp only[S];split<;>rfl
  .rename_i e;simp only[S];split
   .rename_i g;subst g;rw[w (λi=>e i.symm)]
   .exact nA t a v f
def fL(P:bS)(n:Y)(d:Array aX)(i:Y)(l e:St)(k m:Y)(o:Ks):Prop:=
 ∃f g,tT P n d i f g (λp=>k<=p/\p<m)/\(∀q∈f,l.kn q.1=ad q.2)/\e.kn=bq l.kn g/\k<=m/\(∀a∈dq f,a∈o.1)/\∀a∈fD g,a∈o.2
section
variable{P:bS}{tt:TT}
def fL.O5{n}{a}{i}{o d e}{k}{p}(q:k5 P n a i o d k p)(f:e.kn=d.kn):fL P n a i o e k (k+1) p:=by let ⟨rd,wr,s,g,t,l,m⟩:=q;exact⟨rd,wr,s.Iz ⟨aW _,O⟩,g,by rw[f,t],O,l,m⟩
def fL.lF{n}{d}{i}{l e:St}{k}{m}{f}{g}(u:g6 P n d i f g k)(o:∀t∈f,l.kn t.1=ad t.2)(p:e.kn=bq l.kn g)(q:∀a∈dq f,a∈m.1)(s:∀a∈fD g,a∈m.2):fL P n d i l e k (k+1) m:=
 ⟨f,g,u.Iz ⟨aW _,O⟩,o,p,O,q,s⟩
def fL.lift{n}{e}{i}{o}(x:e[i]? =ad o)(s:o.guard=none){t f}{k u}{v}(B:fL P n #[o] 0 t f k u v):fL P n e i t f k u v:=by let ⟨rd,wr,C,h2⟩:=B;refine⟨rd,wr,?_,h2⟩;intro F p Q d H g W a K l m L U;have q:=C F p Q d H g W a K l m L U;unfold wpOp at q⊢;simp only[x,hZ,s,b7];simp only[tW,l3,hZ,s,b7]at q;exact q
def fL.guard{n}{e}{i}{o}(ho:e[i]? =ad o){l7}{d}(hg:o.guard=ad (l7,d)){p}(hj:p7 e.toList l7=ad p){u q}(hb:S p u.sl=ad (.c<|.B d)){k k'}{x}
  (l:fL P n #[{o with guard:=none}] 0 u q k k' x):fL P n e i u q k k' (.s p::x.1,x.2):=by
 let ⟨rd,wr,A,C,H,hle,L,U⟩:=l
 refine⟨(.s p,.v<|.c<|.B d)::rd,wr,?_,?_,H,hle,λX y=>?_,U⟩
 .intro F b Q m D g W a K t f z E;have r:=A F b Q m D g W a K t f (λw bZ=>z w dR) E;have G:=f.eE p (.c<|.B d)<|z (.s p,.v<|.c<|.B d) ax;have I:hZ o (yielded e a.tmps)=ae:=by simp only[hZ,hg,E0 hj G,beq_self_eq_true]
  unfold wpOp at r⊢;simp only[ho,I,b7];simp only[tW,l3,hZ,b7]at r;exact r
 .intro w bZ;rcases bX.1 bZ with rfl|l
  .simp[St.kn,hb]
  .exact C w l
 .simp only[dq,gR,bX]at y;rcases y with l|l
  .simp[l]
  .exact jF _<|L X l
def O6(a:St) d x:(⟨hJ d x a.sl,a.mem,a.nx,a.gd⟩:St).kn=bq a.kn [(.s d,ad<|.v x)]:=by
 funext key;cases key with
 |s t=>
  by_cases e:d=t
  .simp[St.kn,nA,bq,aC,e]
  .simp[St.kn,nA,bq,aC,e]
 |m id=>simp[St.kn,bq,aC]
def CE(a:St) d id x f:(⟨hJ d x a.sl,(id,f)::a.mem,a.nx,a.gd⟩:St).kn=bq a.kn [(.s d,ad<|.v x),(.m id,ad<|.b f)]:=by
 funext key;cases key with
 |s t=>
  by_cases e:d=t
  .simp[St.kn,nA,bq,aC,e]
  .simp[St.kn,nA,bq,aC,e]
 |m j=>
  by_cases e:id=j
  .simp[St.kn,S,bq,aC,e]
  .simp[St.kn,S,bq,aC,e]
def VP(a:St) d id x f:(⟨hJ d x a.sl,hJ id f a.mem,a.nx,a.gd⟩:St).kn=bq a.kn [(.s d,ad<|.v x),(.m id,ad<|.b f)]:=by
 funext key;cases key with
 |s t=>
  by_cases e:d=t
  .simp[St.kn,nA,bq,aC,e]
  .simp[St.kn,nA,bq,aC,e]
 |m j=>
  by_cases e:id=j
  .simp[St.kn,nA,bq,aC,e]
  .simp[St.kn,nA,bq,aC,e]
def ag2(a:St) d id new x f(g:id≠new):(⟨hJ d x a.sl,(new,f)::rv id a.mem,a.nx,a.gd⟩:St).kn=bq a.kn [(.s d,ad<|.v x),(.m new,ad<|.b f),(.m id,none)]:=by
 funext key;cases key with
 |s t=>
  by_cases e:d=t
  .simp[St.kn,nA,bq,aC,e]
  .simp[St.kn,nA,bq,aC,e]
 |m j=>
  by_cases e:new=j
  .simp[St.kn,S,bq,aC,e]
  .simp only[St.kn,S,bq,aC,e,reduceCtorEq,Key.m.injEq,bL,zI];split<;>simp
end
abbrev FD:=FuncId->V AV->V (Y×aE)->Y->ar (AV×V (Y×aE)×Y)
def JJ{a:Type}:V (Y×a)->V (Y×a)
 |[]=>[]
 | (t,v)::d=>hJ t v d
def mX(s m:Bool)(a:St):St:=⟨cond s (JJ a.sl) a.sl,cond m (JJ a.mem) a.mem,a.nx,a.gd⟩
def VQ{d:Type}(a:Y):∀l:V (Y×d),S a (JJ l)=S a l
 |[]=>rfl
 | (t,v)::e=>by simp only[JJ,nA,S]
def VR s m st:(mX s m st).kn=st.kn:=by
 funext key;cases key with
 |s t=>cases s<;>simp[St.kn,mX,VQ]
 |m id=>cases m<;>simp[St.kn,mX,VQ]
def x4(d:TT)(f g:Y):ar (Y×TI):=match S f d,S g d with
 |some a,ad b=>(match a.kind,b.kind with
  | .sl E,.sl _=>(match S E d with
   |some e=>if 0<e.size then ad (E,e)else none
   |none=>none)
  |_,_=>none)
 |_,_=>none
def reach:Y->V (Y×aE)->V Y->V (Y×aE)->V (Y×aE)
 |0,_,_,acc=>acc
 |_+1,_,[],acc=>acc
 |f+1,mem,id::todo,acc=>match S id acc with
  |some _=>reach f mem todo acc
  |none=>(match S id mem with
   |some a=>reach f mem (a.ak++todo)<|(id,a)::acc
   |none=>reach f mem todo acc)
def FE(a d e:Y):Bool:=dT ((d+d/4+192)*e) 281474976710656&&dT d 16777216&&dT a 16777216
def CF(fm:V (Y×aE)):V (Y×aE)->V (Y×aE)
 |[]=>[]
 | (id,d)::a=>match S id fm with
  |some _=>CF fm a
  |none=>(id,d)::CF fm a
def O7(o:TT)(n k d:Y)(x g:dS)(p q:Y)(a:St):ar (St×Y×Ks):=match x4 o p q with
 |some (E,f)=>(match a.ev x,a.ev g with
  |some t,ad u=>(match sQ a f.size u with
   |some (m,cs,is)=>if cs.all jH=ae then(match t with
    | .c (.V<|.slice none 0 0)=>if m=0 then ad (⟨hJ d (.c<|.V<|.slice none 0 0) a.sl,a.mem,a.nx,a.gd⟩,k+1,(bD [x,g]++cX is,[.s d]))
     else if FE 0 m f.bytes then ad (⟨hJ d (.c<|.L k 0 m none) a.sl,(k,.box E f.size cs)::a.mem,a.nx,a.gd⟩,k+1,(bD [x,g]++cX is,[.s d,.m k]))else none
    | .c (.L id off len<|ad c)=>(match S id a.mem with
     |some (.box i l e)=>if len+m<=c then
       (if off+(len+m)*f.size<=Z e then ad (⟨hJ d (.c<|.L id off (len+m)<|ad c) a.sl,hJ id (.box i l<|cM e cs<|off+len*f.size) a.mem,a.nx,a.gd⟩,k+1,(bD [x,g]++cX (id::is),[.s d,.m id]))else none)
      else(if off+len*f.size<=Z e/\FE 0 (len+m) f.bytes=ae then ad (⟨hJ d (.c<|.L k 0 (len+m) none) a.sl,(k,.box E f.size<|(az off e).take (len*f.size)++cs)::a.mem,a.nx,a.gd⟩,k+1,(bD [x,g]++cX (id::is),[.s d,.m k]))else none)
     |_=>none)
    | .c (.L id _ len none)=>(match S id a.mem with
     |some (.box i l e)=>if i=E/\l=f.size/\len*f.size<=Z e/\id≠k/\FE 0 (len+m) f.bytes=ae then
       ad (⟨hJ d (.c<|.L k 0 (len+m) none) a.sl,(k,.box E f.size<|h (len*f.size) e++cs)::rv id a.mem,a.nx,a.gd⟩,k+1,(bD [x,g]++cX (id::is),[.s d,.m k,.m id]))else none
     |_=>none)
    |_=>none)else none
   |none=>none)
  |_,_=>none)
 |none=>none
section
variable{P:bS}{tt:TT}
def JK(e:b8 P tt=ae){t u v}{m}(d:x4 tt t u=ad (v,m)):Cv P t u v m.size m.bytes:=by
 unfold x4 at d;split at d
 .rename_i a b C F;split at d
  .rename_i K L n o;split at d
   .rename_i p f;split at d
    .rename_i g;simp only[au,bG]at d;obtain⟨rfl,rfl⟩:=d;have x:=(dZ e C).kind;rw[n]at x;have B:=(dZ e F).kind;rw[o]at B;let ⟨inf,i,k,l,z,q,s⟩:=(dZ e f).info;have H:=(dZ e f).UH;refine⟨x,⟨_,B⟩,⟨inf,z,i,k,l,q,?_⟩,g⟩;have:Z z.cells.toList=Z (p.zero.map ZV.eG):=by rw[s]
     simp only[Fj,cR]at this;omega
    .simp at d
   .simp at d
  .simp at d
 .simp at d
def O8{a e d}(f:FE a e d=ae):(e+e/4+192)*d<=281474976710656/\e<=140737488355328:=by simp only[FE,cw]at f;have g:=c9 f.1.1;have i:=c9 f.1.2;exact⟨g,O⟩
def z7{d}{x e}{a}:∀f∈dq (cC d x++cC d e++ff d a),f∈bD [x,e]++cX a:=by
 intro k g;simp only[dq,fo,aY]at g;rcases g with(h|h)|h
 .exact dY _<|ew d [x,e] k uf
 .exact dY _<|ew d [x,e] k vI
 .exact fU _<|jW d a k h
def CG{e}{x g}{d}:∀a∈cC e x++cC e g++ff e d,e.kn a.1=ad a.2:=by
 intro a f;rcases aY.1 f with h|h
 .rcases aY.1 h with h|h
  .exact dV _ x a h
  .exact dV _ g a h
 .exact jV _ d a h
def ag3(bW:b8 P tt=ae){n k d:Y}(e:d<n){o:aX}(s:o.guard=none)(t:o.dst=ad d){x cp}{t1 t2:Y}(f:o.op= .call ⟨.builtin .append,#[x,cp],#[t1,t2]⟩){l u}{k'}{ks}
  (a:O7 tt n k d x cp t1 t2 l=ad (u,k',ks)):fL P n #[o] 0 l u k k' ks:=by
 have v:(#[o]:Array aX)[0]? =ad o:=rfl
 unfold O7 at a
 split at a
 .rename_i E w z;have B:=JK bW z;split at a
  .rename_i I J C F;split at a
   .rename_i m M is H;split at a
    .rename_i g;split at a
     .split at a
      .rename_i r;subst r;simp only[au,bG]at a;obtain⟨rfl,rfl,rfl⟩:=a;exact .lF (agD v s t e f B C F H g k) CG (O6 l d _) z7 lG
      .split at a
       .rename_i r p;let ⟨K,h2⟩:=O8 p;simp only[au,bG]at a;obtain⟨rfl,rfl,rfl⟩:=a;have:=VD v s t e f B C F (len:=0) (c:=0) (cb:=[]) (ib:=[]) (by rfl) H g O (by simpa using K) oO k;simp only[eH,sA]at this;exact .lF this CG (CE l d k _ _) z7 lG
       .simp at a
     .rename_i U L q c;split at a
      .rename_i A D Q W;split at a
       .rename_i b;split at a
        .rename_i i;simp only[au,bG]at a;obtain⟨rfl,rfl,rfl⟩:=a;exact .lF (agE v s t e f B C F W H g b i k) CG (VP l d U _ _) z7 lG
        .simp at a
       .rename_i G;split at a
        .rename_i X;let ⟨K,h2⟩:=O8 X.2;simp only[au,bG]at a;obtain⟨rfl,rfl,rfl⟩:=a;have:=VD v s t e f B C F (len:=q) (c:=c) (cb:=(az L Q).take<|q*w.size) (ib:=[U]) (by simp[OQ,W,X.1]) H g O K h2 k;exact .lF this CG (CE l d k _ _) z7 lG
        .simp at a
      .simp at a
     .rename_i U L q;split at a
      .rename_i A D Q W;split at a
       .rename_i X;obtain⟨rfl,rfl,i,j,p⟩:=X;let ⟨K,h2⟩:=O8 p;simp only[au,bG]at a;obtain⟨rfl,rfl,rfl⟩:=a;exact .lF (agF v s t e f B C F W H g i K h2 k) CG (ag2 l d U k _ _ j) z7 lG
       .simp at a
      .simp at a
     .simp at a
    .simp at a
   .simp at a
  .simp at a
 .simp at a
end
def JL(fm a mem:V (Y×aE)):V (Y×aE):=match fm with
 |[]=>a++mem
 |fm=>a++CF fm mem
def O9(g:FD)(k d:Y)(i:dS)(args:V dS)(e:St):ar (St×Y×Ks):=match uo e i args with
 |some (f,vs,ids)=>(match reach 1000 e.mem (cF vs) []with
  |fm=>(match g f vs fm k with
   |some (r,a,l)=>if vM k (cF vs)&&ug k fm&&xW k fm r.ak&&xX k fm a then
     ad (⟨hJ d r e.sl,JL fm a e.mem,e.nx,e.gd⟩,l,(bD (i::args)++cX (ids++fm.map (·.1)),.s d::(cX (fm.map (·.1))++cX (a.map (·.1)))))
    else none
   |none=>none))
 |none=>none
def CH{d:Type}(a:Y):∀(l m:V (Y×d)),S a (l++m)=match S a l with|some x=>ad x|none=>S a m
 |[],m=>rfl
 | (t,v)::l,m=>by
  simp only[lY,S];split
  .rfl
  .exact CH a l m
def O'(fm:V (Y×aE))(a:Y):∀l:V (Y×aE),S a (CF fm l)=if(S a fm).isSome then none else S a l
 |[]=>by simp[CF,S]
 | (id,g)::f=>by
  simp only[CF];split
  .rename_i x d;rw[O' fm a f];by_cases e:id=a
   .subst e;simp[d]
   .simp[S,e]
  .rename_i d;simp only[S];by_cases e:id=a
   .subst e;simp[d]
   .simp only[e,bL];exact O' fm a f
def ag4(fm a mem:V (Y×aE))(d:Y):S d (JL fm a mem)=match S d a with|some x=>ad x|none=>if(S d fm).isSome then none else S d mem:=by
 unfold JL;split
 .rw[CH];cases S d a<;>simp[S]
 .rw[CH,O'];cases S d a<;>rfl
def JM(mem:V (Y×aE)):∀(f:Y)(d:V Y)(a:V (Y×aE)),(∀i k,S i a=ad k->S i mem=ad k)->∀i k,S i (reach f mem d a)=ad k->S i mem=ad k
 |0,_,a,g=>by simpa[reach]using g
 |f+1,[],a,g=>by simpa[reach]using g
 |f+1,i::d,a,g=>by
  simp only[reach];split
  .exact JM mem f d a g
  .split
   .rename_i k m;refine JM mem f _ _ ?_;intro n o l;simp only[S]at l;split at l
    .rename_i e;subst e;cases l;exact m
    .exact g n o l
   .exact JM mem f d a g
section
variable{P:bS}{tt:TT}
def ag5(f:St) d k n fm a(g:xX k fm a=ae):(⟨hJ d n f.sl,JL fm a f.mem,f.nx,f.gd⟩:St).kn=bq f.kn ((.s d,ad<|.v n)::(nW a fm++jZ k a)):=by
 funext key;cases key with
 |s t=>
  by_cases e:d=t
  .simp[St.kn,nA,bq,aC,e]
  .simp[St.kn,nA,bq,aC,e,sT,Cz,xU]
 |m j=>
  simp only[St.kn,bq,aC,reduceCtorEq,bL,sT,Fu,xV,ag4]
  by_cases h:(S j fm).isSome=ae
  .simp only[h,b7];cases S j a<;>rfl
  .simp only[h,bL,hY];cases o:S j a with
   |none=>by_cases i:k<=j<;>simp[i]
   |some b=>
    have i:k<=j:=by
     rcases(OW g j b o).1 with l|⟨p,l⟩
     .exact l
     .rw[l]at h;simp at h
    simp[i]
def VS(a:V (Y×aE)):∀fm:V (Y×aE),fD (nW a fm)=cX (fm.map (·.1))
 |[]=>rfl
 | (id,e)::d=>by simp only[nW,fD,gR,cX];have:=VS a d;simp only[fD]at this;rw[this]
def Pa(k:Y):∀(fm:V (Y×aE)),∀a∈fD (jZ k fm),a∈cX (fm.map (·.1))
 |[],a,d=>by simp[jZ,fD]at d
 | (id,f)::e,a,d=>by
  simp only[jZ]at d;simp only[gR,cX,bX];split at d
  .simp only[fD,gR,bX]at d;rcases d with d|d
   .exact .inl d
   .exact .inr<|Pa k e a d
  .exact .inr<|Pa k e a d
def ag6{p:FD}(q:∀f vs fm k L e s,p f vs fm k=ad (L,e,s)->CX P f vs fm k L e s){n k d:Y}(Q:d<n){o:aX}(hg:o.guard=none)(hd:o.dst=ad d){t}{args}{U}(W:o.op= .call ⟨.value t,args,U⟩){i u}{s}{ks}
  (h:O9 p k d t args.toList i=ad (u,s,ks)):fL P n #[o] 0 i u k s ks:=by
 have z:(#[o]:Array aX)[0]? =ad o:=rfl
 unfold O9 at h
 split at h
 .rename_i f vs v A;generalize X:reach 1000 i.mem (cF vs) []=fm at h;simp only at h;split at h
  .rename_i L e I D;split at h
   .rename_i y;simp only[cw]at y;let ⟨⟨⟨c,j⟩,w⟩,B⟩:=y;simp only[au,bG]at h;obtain⟨rfl,rfl,rfl⟩:=h;have C:=q _ _ _ _ _ _ _ D;refine⟨_,_,VO z hg hd Q W A C c j w B ?_,?_,ag5 i d k L fm e B,C.le,?_,?_⟩
    .rw[<-X];exact JM i.mem 1000 _ [] (λJ b h=>by simp[S]at h)
    .intro K F;simp only[aY]at F;rcases F with((h|h)|h)|h
     .exact dV _ t K h
     .let ⟨x,_,h⟩:=iw.1 h;exact dV i x K h
     .exact jV _ v K h
     .exact jV _ _ K h
    .intro g H;simp only[dq,fo,aY]at H;have E:∀(l m:V Y),cX (l++m)=cX l++cX m:=by
      intro l m;induction l with
      |nil=>rfl
      |cons a l G=>simp only[lY,cX,G]
     rw[E];simp only[aY];rcases H with((h|h)|h)|h
     .exact .inl<|ew i (t::args.toList) g uf
     .exact .inl (ew i (t::args.toList) g<|by simp only[dq,kD,fo,aY];exact .inr h)
     .exact .inr<|.inl<|jW i v g h
     .exact .inr<|.inr<|jW i _ g h
    .intro g H;simp only[fD,gR,fo,bX,aY]at H⊢;rcases H with h|h|h
     .exact .inl h
     .refine .inr<|.inl ?_;rw[<-VS e fm];exact h
     .exact .inr<|.inr<|Pa k e g h
   .simp at h
  .simp at h
 .simp at h
end
end Go.El
