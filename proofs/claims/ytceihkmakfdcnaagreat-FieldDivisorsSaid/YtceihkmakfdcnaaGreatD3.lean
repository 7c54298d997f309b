/- The engine, part 19: append. Own work; no condition. -/
import Derived.Deep.AppendSrc
import Derived.Deep.DeepAppendWide
import Derived.Test.YtceihkmakfdcnaaGreatD2
set_option linter.all false
set_option maxHeartbeats 16000000
set_option maxRecDepth 100000
open Bool renaming true->ae
open Go renaming Program->bW,Value->aV,World->cQ,TypeId->dX,builtin->Le,Oper->a4,Operand->eI
open Go.Act renaming put->im
open Go.Builtin renaming firstCells->yO,lenOf->XJ,append_->xc,zeroCells->Ld
open Go.Deferred renaming ofValue->Hs
open Go.El renaming ja->S,jd->r
open Go.Instr renaming sliceBound->GF,sliceAt->Bi,sliceBounds->tP,slice->XV,buildSlice->G9
open Go.Oper renaming wp->nK,upon->nL
open Go.Region renaming wanted->gV
open Go.Result renaming andThen->dx
open Go.Sem renaming run_bind->dn,run->kp
open Go.World renaming block_lt_of_cell?->DC
open List renaming length->Z,drop->aA,take->c,replicate->bc
open Nat renaming ble->dP
open Option renaming some->ad
open Option.some renaming inj->XT
open _root_ renaming Nat->Y,List->V,Option->ax
namespace Go.El
open Go Go.RowKit
section
variable{P:bW}{tt:TT}{n:Y}
def XI{g}{T}{f}{v}(dj:c7 g (.S T f) v):
  ∃d:V aV,(∀W:cQ,Sub g.H W->(yO T.n (Z f) v).run P W= .ok d.toArray W)/\Z d=Z f*T.n/\(∀i(dj:i<Z f),cZ g.H T f[i] ((aA (i*T.n) d).take T.n))/\∀u∈d,oq u=ae:=by
 obtain⟨a,e,rfl,E,F,p⟩:=dj
 by_cases c:f=[]
 .subst c;refine⟨[],λW _=>?_,az,az,az⟩;cases a with
  |none=>simp[yO,pure]
  |some a=>simp[yO,loadCells,loadCellsFrom,pure]
 .rcases p with p|⟨b,off,rfl,p⟩
  .exact absurd p c
  .let d:=(List.range<|Z f*T.n).map λk=>(g.H b<|off+k).getD undef
   have s:Z d=Z f*T.n:=by simp[d]
   have l:∀i(B:i<Z f),∃m,Z m=T.n/\cZ g.H T f[i] m/\(aA (i*T.n) d).take T.n=m/\∀j(C:j<Z m),g.H b (off+(i*T.n+j))=ad m[j]:=by
    intro i B;let ⟨m,hl,t,hc⟩:=p i B;have K:(i+1)*T.n<=Z f*T.n:=eC _ O;rw[gO,jn]at K;refine⟨m,hl,t,?_,λj C=>by rw[<-rq];exact hc j C⟩;apply rF
    .simp[d];omega
    .intro j q L;simp only[qk,tQ,d,Bg,K'];rw[<-rq,hc j L];rfl
   have o:∀k(M:k<Z d),∃v,g.H b (off+k)=ad v/\d[k]=v/\oq v=ae:=by
    intro k M;have x:=T.AE;have Q:k<Z f*T.n:=O;have r:k/T.n<Z f:=yL (by rw[gG];exact Q);have G:k%T.n<T.n:=fS _ x;let ⟨m,hl,t,y,hc⟩:=l (k/T.n) r;have U:k/T.n*T.n+k%T.n=k:=by rw[gG];exact rC k T.n
    have:=hc (k%T.n) O;rw[U]at this;refine⟨_,this,?_,?_⟩
    .simp only[d,Bg,K',this,rh]
    .exact(yq (g:=g) T _ _ t).one (DD T _) _<|sF _
   refine⟨d,λW A=>?_,s,λi B=>?_,λu w=>?_⟩
   .simp only[yO,loadCells];have:=run_loadCellsFrom (P:=P) (W:=W) b (Z f*T.n) 0 off d #[] s (λj C=>by let ⟨v,z,X,_⟩:=o j C;rw[jy,A _ _ _ z,X]);simpa using this
   .let ⟨m,hl,t,y,_⟩:=l i B;rw[y];exact t
   .obtain⟨k,M,rfl⟩:=La w;let ⟨v,_,X,D⟩:=o k M;rw[X];exact D
def ajc{W}{v x ty A L}{d:TypeInfo}(o:P.underlying v=ad (.slice A))(p:P.underlying x=ad (.slice L))(M:P.info? A=ad d){g a f}{y}{m}(Q:(XJ y).run P W= .ok m W)
 {i vs}{B}(s:(yO d.size m y).run P W= .ok i.toArray W) (T:W.heap[g]? =ad (.cells vs.toArray B (0,0))) (k:∀u∈i,oq u=ae) (t:a+m<=f) (H:a*d.size+Z i<=Z vs):
  (xc #[v,x] ty #[.slice (ad ⟨g,0,none⟩) a f,y]).run P W= .ok (.slice (ad ⟨g,0,none⟩) (a+m) f) (jo W g (c9 vs i<|a*d.size) B):=by
 have l:=AW (P:=P) g i W vs (a*d.size) 0 T O k
 simp only[jy]at l
 unfold xc
 simp only[vr,m9,wW]
 rw[dn,run_underlying o]
 simp only[dx]
 rw[dn,run_sizeOf M]
 simp only[dx]
 rw[dn,run_underlying p]
 simp only[dx,pure_bind,iB,bN,DW,cj]
 rw[dn,Q]
 simp only[dx,t,cj]
 rw[dn,s]
 simp only[dx,lF,ff]
 rw[dn,l]
 rfl
def Ha(d:Y->Prop)(g:Gh)(W:cQ)(f:dX)(T:ET)(xs:V T.den)(v:aV):Prop:=
 (v= .slice none 0 0/\xs=[])\/∃b a,∃vs:V aV,v= .slice (ad ⟨b,0,none⟩) (Z xs) a/\W.heap[b]? =ad (.cells vs.toArray f (0,0))/\
   Z vs=a*T.n/\Z xs<=a/\Z xs*T.n<=140737488355328/\(∀i(h:i<Z xs),cZ g.H T xs[i] ((aA (i*T.n) vs).take T.n))/\d b/\∀o,g.H b o=none
def XK{a:Type}(vs:V a) n i m(d:i<m):c n ((c (m*n) vs).drop<|i*n)=(aA (i*n) vs).take n:=by have f:(i+1)*n<=m*n:=eC _ d;rw[gO,jn]at f;rw[List.drop_take,Lb];congr 1;omega
def ajd{d:Type}(a vs:V d) n m i(f:Z a=m*n)(g:m<=i):c n (aA (i*n)<|a++vs)=(aA ((i-m)*n) vs).take n:=by have k:m*n<=i*n:=eC _ g;rw[List.drop_append,tU O,tS,f,Nat.sub_mul]
def XL{d:Type}(a vs:V d) n m i(k:Z a=m*n)(f:i<m):c n (aA (i*n)<|a++vs)=(aA (i*n) a).take n:=by have g:(i+1)*n<=m*n:=eC _ f;rw[gO,jn]at g;rw[AY O,wY b8]
def XM{H}{T}{xs a}{f g rest}(k:Z f=Z xs*T.n)(l:Z g=Z a*T.n)(m:∀i(d:i<Z xs),cZ H T xs[i] ((aA (i*T.n) f).take T.n))(o:∀i(d:i<Z a),cZ H T a[i] ((aA (i*T.n) g).take T.n)):
  ∀i(d:i<Z (xs++a)),cZ H T (xs++a)[i] (c T.n<|aA (i*T.n)<|f++g++rest):=by
 intro i p
 rw[List.getElem_append]
 split
 .rename_i d;rw[l7,XL f _ T.n (Z xs) i k d];exact m i d
 .rename_i d;simp only[iq]at p;rw[l7,ajd f _ T.n (Z xs) i k O,XL g _ T.n (Z a) _ l O];exact o _ O
def aje{Lc:Y->Prop}{g}{W}(p:Sub g.H W){L E2 t1 t2 ty}{T}{xs m}{v y}{f:TypeInfo}{iC}(DX:P.underlying t1=ad (.slice L))(iZ:P.underlying t2=ad (.slice E2))(M:P.info? L=ad f)(hz:f.zero=ad iC)(ua:iC.cells.size=f.size)(Q:f.size=T.n)
  (hv:Ha Lc g W L T xs v) (hy:c7 g (.S T m) y) (hb:((Z xs+Z m)+(Z xs+Z m)/4+192)*f.bytes<=281474976710656) (nQ:(Z xs+Z m)*T.n<=140737488355328) (hN:Lc W.heap.size):
  ∃v' s,(xc #[t1,t2] ty #[v,y]).run P W= .ok v' s/\Ha Lc g s L T (xs++m) v'/\W.heap.size<=s.heap.size/\(∀k,k<W.heap.size->cE v≠ad k->s.heap[k]? =W.heap[k]?)/\s.os=W.os/\s.tape=W.tape/\s.output=W.output/\Sub g.H s/\(∀k,cE v'=ad k->W.heap.size<=k\/cE v=ad k):=by
 let ⟨us,r,x,G,I⟩:=XI (P:=P) hy
 have A:Sub g.H W.drew:=p
 have U:=r W p
 have R:=r W.drew A
 have X:∀o,g.H W.heap.size o=none:=by
  intro o;cases hv:g.H W.heap.size o with
  |none=>rfl
  |some v=>
   have:=DC W _<|p _ _ _ hv
   simp at this
 have B:∀w':cQ,(XJ y).run P w'= .ok (Z m) w':=by obtain⟨a,C,rfl,_⟩:=hy;intro w';rfl
 have G':=T.AE
 have K:∀(base:ax Addr)(d:Y)(l:V aV),v= .slice base (Z xs) d->(yO f.size (Z xs)<|.slice base (Z xs) d).run P W.drew= .ok l.toArray W.drew->Z l=Z xs*T.n->(∀i(h:i<Z xs),cZ g.H T xs[i] ((aA (i*T.n) l).take T.n))->d<Z xs+Z m->
   ∃v' s,(xc #[t1,t2] ty #[v,y]).run P W= .ok v' s/\Ha Lc g s L T (xs++m) v'/\W.heap.size<=s.heap.size/\(∀k,k<W.heap.size->cE v≠ad k->s.heap[k]? =W.heap[k]?)/\s.os=W.os/\s.tape=W.tape/\s.output=W.output/\Sub g.H s/\(∀k,cE v'=ad k->W.heap.size<=k\/cE v=ad k):=by
  intro base d l hv hold Hb hor hZ
  subst hv
  have yP:Src P f.size t2 y (Z m) us W:=⟨.inl ⟨_,iZ⟩,B,by rw[Q];exact U,by rw[Q];exact R,by rw[Q];exact x,λu hu=>by have:=I u hu;revert this;cases u<;>simp[oq,Value.oneCell']⟩
  have D:((Z xs+Z m:Y):Int)<=9223372036854775807:=by have:(Z xs+Z m)*1<=(Z xs+Z m)*T.n:=fN _ G';omega
  have hr:=run_append_grow_src (P:=P) W t1 t2 ty L f iC DX M hz base (Z xs) d l hold y (Z m) us yP hZ D<|growslice_fits_wide hZ hb
  have tR:=grownCap_ge W (Z xs+Z m) d L
  refine⟨_,_,hr,.inr ⟨W.heap.size,grownCap W (Z xs+Z m) d L,l++us++(Ld iC.cells<|grownCap W (Z xs+Z m) d L-(Z xs+Z m)).toList,az,by rw[show W.heap.size=W.drew.heap.size from J,heap_alloc_new];congr 2;apply Dy;simp,?_,by simpa using tR,by simpa using nQ,XM Hb x hor G,hN,X⟩,az,?_,J,J,J,?_,?_⟩
  .simp only[iq,Hb,x,Hc,size_zeroCells,ua,Q,<-gO];congr 1;omega
  .intro k F _;exact heap_alloc_old W.drew _ F
  .exact A1 A _
  .intro k F;simp only[cE,ar]at F;exact .inl O
 rcases hv with⟨rfl,rfl⟩|⟨b,C,vs,rfl,hh,q,hle,avt,hr,hNb,hH⟩
 .by_cases XN:m=[]
  .subst XN;refine⟨.slice none 0 0,W,?_,.inl ⟨J,J⟩,aO _,λ_ _ _=>rfl,J,J,J,p,by simp[cE]⟩;have h0:us=[]:=eT (by simpa using x);subst h0;rw[<-Q]at U;simp[xc,run_underlying DX,run_underlying iZ,sizeOf,typeInfo,M,B];have h3:(yO f.size 0 y).run P W= .ok #[] W:=by simpa using U
   rw[h3];rfl
  .have:=bQ.2 XN;exact K none 0 [] J (run_firstCells_none W.drew _ 0 0 0) az az (by simpa using this)
 .by_cases t:Z xs+Z m<=C
  .have l6:b<W.heap.size:=(gL.1 hh).1;have w:Z xs*f.size+Z us<=Z vs:=by rw[x,q,Q,<-gO];exact eC _ t
   have jc:=ajc (P:=P) (ty:=ty) DX iZ M (B W) (by rw[Q];exact U) hh I t w;refine⟨_,_,jc,.inr ⟨b,C,c9 vs us<|Z xs*f.size,az,yB l6,by rw[yD _ _ _ w];exact q,by simpa using t,by simpa using nQ,?_,hNb,hH⟩,AZ,?_,J,J,J,AX p hH,?_⟩
   .unfold c9;rw[Q];refine XM ?_ x (λi M=>?_) G
    .simp only[eL];rw[q];have:=eC T.n hle;omega
    .rw[XK _ _ _ _ M];exact hr i M
   .intro k _ F;exact yC (λe=>F<|by simp[cE,e])
   .intro k F;exact .inr F
  .have avu:=eC T.n hle;have Hd:(c (Z xs*T.n) vs).length=Z xs*T.n:=by rw[eL,q];omega
   refine K (ad ⟨b,0,none⟩) C (c (Z xs*T.n) vs) J ?_ Hd (λi M=>by rw[XK _ _ _ _ M];exact hr i M) O;rw[Q];refine run_firstCells_some W.drew T.n (Z xs) ⟨b,0,none⟩ (Z xs) C _ Hd ?_;intro j u hj;let ⟨Dj,vp⟩:=sQ.1 hj;simp only[qk]at vp;simp only[lF,ff];have He:W.drew.heap[b]? =ad (.cells vs.toArray L (0,0)):=hh;rw[vz He j (by simp at Dj;omega),vp]
def DY{a:Act}{o}{g:Builtin}{args}{d}(f:o.op= .call ⟨.builtin g,args,d⟩){W W'}{v}(i:∀k,(Le g d o.type k<|args.map a.eval).run P W= .ok (.value v) W'):(execOp a.eval o).run P W= .ok (.value v) W':=by rw[execOp,f];simp only[resolve,pure_bind,invoke];exact i _
def rG:V Y->V (Key×ax Info)
 |[]=>[]
 |id::a=>(.m id,none)::rG a
def yQ:V Y->V (Y×aG)->V (Y×aG)
 |[],l=>l
 |id::a,l=>yQ a<|ry id l
def Hf ids t:aE (rG ids) (.s t)=none:=by
 induction ids with
 |nil=>rfl
 |cons id r a=>simp[rG,aE,a]
def sV(a:Y):∀(d:V Y),aE (rG d) (.m a)=if a∈d then ad none else none
 |[]=>by simp[rG,aE]
 |id::f=>by
  simp only[rG,aE,Key.m.injEq,b9];by_cases g:id=a
  .simp[g]
  .rw[w g,sV a f];by_cases h2:a∈f
   .simp[h2]
   .have:¬(a=id\/a∈f):=by rintro(e|e);exact g e.symm;exact h2 e
    rw[w h2,w this]
def XO(a:Y):∀(d:V Y)(l:V (Y×aG)),S a (yQ d l)=if a∈d then none else S a l
 |[],l=>by simp[yQ]
 |id::g,l=>by
  simp only[yQ];rw[XO a g,A3];by_cases f:id=a
  .simp[f]
  .have:¬(a=id):=λe=>f e.symm
   simp[f,this]
def XP(a:St) d new ids x f:(⟨(d,x)::a.sl,(new,f)::yQ ids a.mem,a.nx,a.gd⟩:St).kn=bs a.kn ((.s d,ad<|.v x)::(.m new,ad<|.b f)::rG ids):=by
 funext k;cases k with
 |s t=>
  by_cases e:d=t
  .simp[St.kn,S,bs,aE,e]
  .simp[St.kn,S,bs,aE,e,Hf]
 |m j=>
  by_cases e:new=j
  .simp[St.kn,S,bs,aE,e]
  .simp only[St.kn,S,bs,aE,e,reduceCtorEq,Key.m.injEq,bN,XO,sV];split<;>simp
def XQ(di:cq P tt=ae){ops}{i}{o:a4}{d:Y}(ho:ops[i]? =ad o)(hg:o.guard=none)(hd:o.dst=ad d){n}(dz:d<n){x y}{t1 t2}(b6:o.op= .call ⟨.builtin .append,#[x,y],#[t1,t2]⟩)
 {A}{ids}{L E2:dX} {T}{xs ys:V T.den} (hx:(∃f,ids=[f]/\A.ev x=ad (.c<|.X f)/\S f A.mem=ad (.vec L T xs))\/(ids=[]/\A.ev x=ad (.c<|.V<|.slice none 0 0)/\xs=[]))
  (hy:A.ev y=ad (.c<|.S T ys)) {ti XR ei:TI} (oR:S t1 tt=ad ti) (B:ti.kind= .sl L) (ajh:S t2 tt=ad XR) (QJ:XR.kind= .sl E2) (ni:S L tt=ad ei) (vB:ei.size=T.n) (Lf:Z ei.zero=T.n)
  (hb:((Z xs+Z ys)+(Z xs+Z ys)/4+192)*ei.bytes<=281474976710656) (nQ:(Z xs+Z ys)*T.n<=140737488355328) (l:Y):
  kT P n ops i A ⟨(d,.c<|.X l)::A.sl,(l,.vec L T<|xs++ys)::yQ ids A.mem,A.nx,A.gd⟩ l (bK [x,y]++cV ids,.s d:: .m l::cV ids):=by
 refine⟨cJ A x++cJ A y++fL A ids,(.s d,ad<|.v<|.c<|.X l)::(.m l,ad<|.b<|.vec L T<|xs++ys)::rG ids,?_,?_,XP A d l ids _ _,?_,?_⟩
 .intro F kO Q R σ g W a K M aR U hK;have uc:c7 g (.S T ys) (a.eval y):=dA aR A y _ hy<|λkx b7=>U kx ef;have hv:Ha F.N g W L T xs (a.eval x)/\(∀k,cE (a.eval x)=ad k->∃f b,ids=[f]/\σ (.m f)=ad (.b b)/\cE (g.γ f)=ad k):=by
   rcases hx with⟨f,rfl,hx,hl⟩|⟨rfl,hx,rfl⟩
   .have sW:a.eval x=g.γ f:=dA aR A x _ hx<|λkx b7=>U kx ef;have q:σ (.m f)=ad (.b<|.vec L T xs):=U (.m f,.b<|.vec L T xs) qm;rw[sW];exact⟨aR.cX f _ q,λk B=>⟨f,_,J,q,B⟩⟩
   .have sW:a.eval x= .slice none 0 0:=dA aR A x _ hx<|λkx b7=>U kx ef;rw[sW];exact⟨.inl ⟨J,J⟩,by simp[cE]⟩
  let ⟨hv,Lg⟩:=hv;have h1:=(eS di oR).kind;rw[B]at h1;have h2:=(eS di ajh).kind;rw[QJ]at h2;let ⟨inf,vC,sX,DZ,z,xd,wZ⟩:=(eS di ni).info;have ua:z.cells.size=inf.size:=by
   have:Z z.cells.toList=Z (ei.zero.map ZV.e9):=by rw[wZ]
   simp only[Hc,cy]at this;omega
  let ⟨v',W',jc,QN,kM,aji,e1,e2,e3,rE,D0⟩:=aje (P:=P) (ty:=o.type) aR.sub h1 h2 vC xd ua O hv uc (by rw[DZ];exact hb) nQ<|.inl aR.below.size;unfold wpOp;simp only[ho,gV,hg,cj];refine .inl ?_;unfold nK;rw[DY b6 (W':=W') (v:=v') (by have e:(#[x,y]:Array eI).map a.eval= #[a.eval x,a.eval y]:=az;intro cs;rw[e];simp only[Le,dn,jc,dx];rfl)];simp only[nL,hd];have xe:d<a.tmps.size:=mD;let D:Gh:=⟨g.H,λf=>if f=l then v' else g.γ f⟩;have yR:gC R g D:=⟨cL.refl _,λf p=>by
   have:f≠l:=λe=>M<|e▸p
   simp[D,this]⟩
  have G:∀f∈ids,∃b,σ (.m f)=ad (.b b):=by
   intro f p;rcases hx with⟨rH,rfl,hx,hl⟩|⟨rfl,_⟩
   .simp only[iK]at p;subst p;exact⟨_,U (.m f,.b<|.vec L T xs) qm⟩
   .cases p
  have Bh:∀f∈ids,f≠l:=λf p e=>by let ⟨b,hb⟩:=G f p;exact M<|e▸aR.ew _ _ hb
  refine hK D _ _<|aR.step (chg:=λj=>j∈ids) (g':=D) ⟨yR,λ_ _ _=>rfl,rE,kM,?_,e1,e2,e3⟩ _ l M mE aR.defers ?_ ?_ ?_ ?_ ?_ ?_
  .intro k B w;refine aji k B<|λe=>?_;obtain⟨f,b,rfl,q,lK⟩:=Lg k e;exact w f az lK
  .intro t ht;have w:d≠t:=qn;simp[im,lE w]
  .intro f p;refine⟨?_,G f p⟩;simp only[aE,reduceCtorEq,bN,Key.m.injEq,sV,p,cj];split<;>simp
  .intro t u ht;simp only[aE]at ht;split at ht
   .rename_i e;simp only[Key.s.injEq]at e;simp only[ar,Info.v.injEq]at ht;subst e;subst ht;simp[im,xe,bu,c7,D]
   .simp[Hf]at ht
  .intro f b ht;simp only[aE,reduceCtorEq,bN]at ht;split at ht
   .rename_i e;simp only[Key.m.injEq]at e;subst e;simp only[ar,Info.b.injEq]at ht;subst ht;have hr:Ha F.N D W' L T (xs++ys) (D.γ l):=by
     have e:D.γ l=v':=by simp[D]
     rw[e];exact QN
    refine⟨hr,.inr ⟨J,λk B=>?_⟩⟩;simp only[D,cj]at B;rcases D0 k B with h|h
    .exact .inl h
    .let ⟨f,b,I,q,lK⟩:=Lg k h;refine .inr ⟨f,b,q,?_,lK⟩;have w:=Bh f (by simp[I]);simp only[aE,reduceCtorEq,bN,Key.m.injEq,Ne.symm w,sV];simp[I]
   .rw[sV]at ht;split at ht<;>simp at ht
  .intro k y ht;simp only[aE]at ht;split at ht
   .simp only[ar]at ht;subst ht;intro f p;simp[Info.ak,AV.ak,C.ak]at p;exact .inr p
   .split at ht
    .simp only[ar]at ht;subst ht;intro f p;simp[Info.ak,aG.ak]at p
    .cases k with
     |s t=>simp[Hf]at ht
     |m j=>rw[sV]at ht;split at ht<;>simp at ht
  .intro f y ht;simp only[aE,reduceCtorEq,bN]at ht;split at ht
   .rename_i e;simp only[Key.m.injEq]at e;exact .inr e.symm
   .rw[sV]at ht;split at ht<;>simp at ht
 .intro kx b7;rcases bg.1 b7 with h|h
  .rcases bg.1 h with h|h
   .exact eD _ x kx h
   .exact eD _ y kx h
  .exact kr _ ids kx h
 .intro k B;simp only[dI,fM,bg]at B;rcases B with(h|h)|h
  .exact eH _<|eO A [x,y] k tV
  .exact eH _<|eO A [x,y] k vD
  .exact gD _<|ku A ids k h
 .have hd:∀ids:V Y,fW (rG ids)=cV ids:=by
   intro ids;induction ids with
   |nil=>rfl
   |cons f r ih=>simp only[rG,fW,il,cV]at ih⊢;rw[ih]
  intro k B;have:fW ((.s d,ad<|.v<|.c<|.X l)::(.m l,ad<|.b<|.vec L T<|xs++ys)::rG ids)= .s d:: .m l::cV ids:=by rw[<-hd ids];rfl
  rw[<-this];exact B
def ajj{g}{a}{k i}{d}{x y}{t1 t2 ty:dX}{pos}{H}{os}{t}{mem}{u}{v}{ks}{Q:St->Prop}(L:cq P tt=ae)
 {f}{A E2:dX} {T}{xs l}(hx:St.ev ⟨t,mem,u,v⟩ x=ad (.c<|.X f)) (hl:S f mem=ad (.vec A T xs))
  (hy:St.ev ⟨t,mem,u,v⟩ y=ad (.c<|.S T l)) {ti o B}(M:S t1 tt=ad ti) (hk:ti.kind= .sl A) (p:S t2 tt=ad o) (U:o.kind= .sl E2) (W:S A tt=ad B) (vB:B.size=T.n) (Lf:Z B.zero=T.n)
  (hb:((Z xs+Z l)+(Z xs+Z l)/4+192)*B.bytes<=281474976710656) (nQ:(Z xs+Z l)*T.n<=140737488355328)
  (dj:RG P n g a k (i+1) os ⟨(d,.c<|.X<|1000000*k+1000*i)::t,(1000000*k+1000*i,.vec A T<|xs++l)::ry f mem,u,v⟩ (ia a ks (bK [x,y]++cV [f],[.s d,.m<|1000000*k+1000*i,.m f])) Q) (dz:Nat.blt d n=ae:=by rfl):
  RG P n g a k i (⟨ad d,.call ⟨.builtin .append,#[x,y],#[t1,t2]⟩,ty,pos,H,none⟩::os) ⟨t,mem,u,v⟩ ks Q:=
 nc (λC=>XQ L C J J (c8 dz) J (.inl ⟨f,J,hx,hl⟩) hy M hk p U W vB Lf hb nQ _) (nh dj)
def ajk{f}{a}{g i}{d}{x y}{t1 t2 ty:dX}{pos}{A}{os}{p}{mem}{t}{u}{ks}{Q:St->Prop}(B:cq P tt=ae)
  {H E2:dX} {T}{k}(hx:St.ev ⟨p,mem,t,u⟩ x=ad (.c<|.V<|.slice none 0 0))
  (hy:St.ev ⟨p,mem,t,u⟩ y=ad (.c<|.S T k)) {ti l v}(L:S t1 tt=ad ti) (hk:ti.kind= .sl H) (o:S t2 tt=ad l) (M:l.kind= .sl E2) (U:S H tt=ad v) (W:v.size=T.n) (Lf:Z v.zero=T.n)
  (hb:(Z k+Z k/4+192)*v.bytes<=281474976710656) (nQ:Z k*T.n<=140737488355328)
  (dj:RG P n f a g (i+1) os ⟨(d,.c<|.X<|1000000*g+1000*i)::p,(1000000*g+1000*i,.vec H T k)::mem,t,u⟩ (ia a ks (bK [x,y],[.s d,.m<|1000000*g+1000*i])) Q) (dz:Nat.blt d n=ae:=by rfl):
  RG P n f a g i (⟨ad d,.call ⟨.builtin .append,#[x,y],#[t1,t2]⟩,ty,pos,A,none⟩::os) ⟨p,mem,t,u⟩ ks Q:=
 nc (λC=>XQ (xs:=[]) (ids:=[]) B C J J (c8 dz) J (.inr ⟨J,hx,J⟩) hy L hk o M U W Lf tW (by simpa using nQ) _) (nh<|by simpa[cV,yQ]using dj)
end
def Lh(a:TT)(t:Y):ax Y:=match S t a with
 |some d=>(match d.kind with
  | .sl e=>(match S e a with|some f=>ad f.size|none=>none)
  |_=>none)
 |none=>none
def Li(a:TT)(t:Y)(x i:AV):ax (AV×Pr):=match x,i with
 | .c (.L id off len _),.c (.I _ k)=>(match Lh a t with
  |some sz=>ad (.c<|.P id<|off+Int.toNat k*sz,.and (.le 0 k)<|.lt k len)
  |none=>none)
 |_,_=>none
def xf(m:Y):ax AV->Y->ax (Y×Pr)
 |none,d=>ad (d,.t)
 |some (.c<|.I _ k),_=>ad (Int.toNat k,.and (.le 0 k)<|.le k m)
 |_,_=>none
def QO(g:TT)(t:Y)(x:AV)(f a d:ax AV):ax (AV×Pr):=match x,Lh g t with
 | .c (.L id off len<|ad c),ad sz=>(match xf c d c with
  |some (m,p1)=>(match(if d.isSome&& !a.isSome then none else xf m a len)with
   |some (h,i)=>(match xf h f 0 with
    |some (l,k)=>ad (.c<|.L id (if m=l then off else off+l*sz) (h-l)<|ad<|m-l,.an p1<|.an i k)
    |none=>none)
   |none=>none)
  |none=>none)
 | .c (.L id off len none),ad _=>(match f,d with
  |none,none=>(match xf len a len with
   |some (h,p)=>ad (.c<|.L id off h none,p)
   |none=>none)
  |_,_=>none)
 | .c (.V<|.slice none 0 0),ad _=>(match d,xf 0 a 0 with
  |none,ad (h,p)=>(match xf h f 0 with
   |some (_,q)=>ad (.c<|.V<|.slice none 0 0,.an p q)
   |none=>none)
  |_,_=>none)
 |_,_=>none
def Lj(a:TT)(t:Y)(x:AV):ax AV:=match S t a with
 |some d=>(match d.kind with
  | .sl _=>(match x with
   | .c (.L _ _ len _)=>ad<|.c<|.I .i64 len
   |_=>none)
  |_=>none)
 |none=>none
def XS(a x y:ax AV):ax (AV×Pr):=match a,x,y with
 |some (.c<|.B ae),ad v,_=>ad (v,.t)
 |some (.c<|.B false),_,ad v=>ad (v,.t)
 |_,_,_=>none
def D1(d:TT)(a:St):Op->ax (AV×Pr)
 | .pick g x y=>XS (a.ev g) (a.ev x)<|a.ev y
 | .indexAddr t x i=>(match a.ev x,a.ev i with|some v,ad k=>Li d t v k|_,_=>none)
 | .slice t x n o p=>(match a.ev x,yz a n,yz a o,yz a p with|some v,ad l,ad s,ad m=>QO d t v l s m|_,_,_,_=>none)
 | .call ⟨.builtin .len,args,f⟩=>(match args.toList,f.toList with
  |[x],[t]=>(match a.ev x with|some v=>(match Lj d t v with|some u=>ad (u,.t)|none=>none)|none=>none)
  |_,_=>none)
 |_=>none
section
variable{P:bW}{tt:TT}{g:Gh}{W:cQ}
def Lk(d:cq P tt=ae){t n}(a:Lh tt t=ad n):∃f i,P.underlying t=ad (.slice f)/\P.info? f=ad i/\i.size=n:=by
 refine AR d ?_;unfold Lh at a;unfold tN;split at a
 .rename_i s k;split at a
  .rename_i f l;split at a
   .rename_i m o;have p:m.size=n:=XT a;simp[k,l,o,p]
   .simp at a
  .simp at a
 .simp at a
def ajl(m:cq P tt=ae){t}{x i y}{p}(a:Li tt t x i=ad (y,p))(Q:p){v u}(L:bu g x v)(T:bu g i u):(∃M,(Instr.indexAt t v u).run P W= .ok M W/\bu g y M)/\∀n∈y.ak,n∈x.ak:=by
 unfold Li at a;split at a
 .rename_i n f l o U k;split at a
  .rename_i sz s;simp only[ar,bM]at a;obtain⟨rfl,rfl⟩:=a;let ⟨e,i,A,X,j⟩:=Lk m s;have B:u= .int U k:=T;subst B;have d:0<=k/\k<(l:Int):=Q;have H:∃b c,cE (g.γ n)=ad b/\v= .slice (ad ⟨b,f,none⟩) l c:=by
    cases o with
    |some c=>let ⟨b,K,h2⟩:=L;exact⟨b,c,K,h2⟩
    |none=>let ⟨q,b,c,K,h2,_⟩:=L;subst q;exact⟨b,c,by rw[K];rfl,h2⟩
   obtain⟨b,c,r,rfl⟩:=H;refine⟨⟨.pointer<|ad ⟨b,f+Int.toNat k*sz,none⟩,?_,b,r,J⟩,rk⟩;simp only[Instr.indexAt,asIntOf,dn,run_underlying A,dx];simp[d,run_sizeOf X,j,lF]
  .simp at a
 .simp at a
def xg{m}{x}{d f}{p}(a:xf m x d=ad (f,p))(o:p){v}(i:yA g x v)(code:BoundsCode):
  (x=none/\v=none/\f=d)\/(∃u,x.isSome=ae/\v=ad u/\f<=m/\(GF u m code).run P W= .ok f W):=by
 unfold xf at a
 split at a
 .simp only[ar,bM]at a;cases v with
  |none=>exact .inl ⟨J,J,a.1.symm⟩
  |some u=>exact i.elim
 .rename_i s k;simp only[ar,bM]at a;obtain⟨rfl,rfl⟩:=a;cases v with
  |none=>exact i.elim
  |some u=>
   have l:u= .int s k:=i
   subst l
   have n:0<=k/\k<=(m:Int):=o
   refine .inr ⟨_,J,J,O,?_⟩
   simp[GF,asIntOf,n,kp,pure]
 .simp at a
def ajm(di:cq P tt=ae){t}{x y}{lo hi mx}{p}(a:QO tt t x lo hi mx=ad (y,p))(hp:p){v}{vl vh vm}(hv:bu g x v)
  (hl:yA g lo vl) (hh:yA g hi vh) (hm:yA g mx vm):
  (∃iC,(Bi t v vl vh vm).run P W= .ok iC W/\bu g y iC)/\∀id∈y.ak,id∈x.ak:=by
 unfold QO at a
 split at a
 .rename_i id r k c sz s;let ⟨e,i,A,B,R⟩:=Lk di s;split at a
  .rename_i m p1 H;split at a
   .rename_i f p2 o;split at a
    .rename_i l p3 D;simp only[ar,bM]at a;obtain⟨rfl,rfl⟩:=a;let ⟨E,S⟩:=Pr.Gz hp;let ⟨K,F⟩:=Pr.Gz S;obtain⟨N,Gw,rfl⟩:=hv;have L:¬(mx.isSome=ae/\hi.isSome=false):=by intro V;rw[b (by simp[V.1,V.2])]at o;cases o
     have U:xf m hi k=ad (f,p2):=by rw[w (by intro V;simp only[cz,GY]at V;exact L V)]at o;exact o
     refine⟨⟨.slice (if m=l then ad ⟨N,r,none⟩else ad ⟨N,r+l*sz,none⟩) (f-l)<|m-l,?_,N,Gw,?_⟩,rk⟩
     .have M:(tP ae k c vl vh vm).run P W= .ok (l,f,m) W:=by
       unfold tP;rcases xg (P:=P) (W:=W) H E hm .slice3Acap with⟨Y,rfl,rfl⟩|⟨u1,Y,rfl,_,Z⟩
       .rcases xg (P:=P) (W:=W) U K hh .sliceAcap with⟨T,rfl,rfl⟩|⟨u2,T,rfl,_,G⟩
        .rcases xg (P:=P) (W:=W) D F hl .sliceB with⟨Q,rfl,rfl⟩|⟨u3,Q,rfl,_,XU⟩<;>simp[*]
        .rcases xg (P:=P) (W:=W) D F hl .sliceB with⟨Q,rfl,rfl⟩|⟨u3,Q,rfl,_,XU⟩<;>simp[*]
       .rcases xg (P:=P) (W:=W) U K hh .slice3B with⟨T,rfl,rfl⟩|⟨u2,T,rfl,_,G⟩
        .exact absurd ⟨Y,by simp[T]⟩ L
        .rcases xg (P:=P) (W:=W) D F hl .slice3C with⟨Q,rfl,rfl⟩|⟨u3,Q,rfl,_,XU⟩<;>simp[*]
      simp only[Bi,dn,run_underlying A,dx,XV,M,run_sizeOf B,R];split<;>simp[pure,lF]
     .split<;>rfl
    .simp at a
   .simp at a
  .simp at a
 .rename_i id r k sz s;let ⟨e,i,A,B,R⟩:=Lk di s;split at a
  .split at a
   .rename_i f p1 H;simp only[ar,bM]at a;obtain⟨rfl,rfl⟩:=a;obtain⟨h0,N,c,hγ,rfl,hle⟩:=hv;subst h0;have vI:vl=none:=by cases vl with|none=>rfl|some _=>exact hl.elim
    have I:vm=none:=by cases vm with|none=>rfl|some _=>exact hm.elim
    subst vI I;have X:=Qk (P:=P) (W:=W) (n:=k) (x:=hi) (d:=k) (h:=f) (p:=p1) (by rw[<-H];cases hi with|none=>rfl|some q=>cases q with|c q=>cases q<;>rfl|_=>rfl) hp hh c hle .sliceAcap;have j:f<=k:=by rcases X with⟨_,_,e⟩|⟨_,_,a,_⟩<;>omega
    refine⟨⟨.slice (ad ⟨N,0,none⟩) f c,?_,J,N,c,hγ,J,O⟩,rk⟩;have M:(tP ae k c none vh none).run P W= .ok (0,f,c) W:=by unfold tP;rcases X with⟨_,rfl,rfl⟩|⟨u,rfl,_,Z⟩<;>simp[*]
    simp only[Bi,dn,run_underlying A,dx,XV,M,run_sizeOf B,R];simp[pure,lF]
   .simp at a
  .simp at a
 .rename_i sz s;let ⟨e,i,A,B,R⟩:=Lk di s;split at a
  .rename_i f p1 H;split at a
   .rename_i l p2 o;simp only[ar,bM]at a;obtain⟨rfl,rfl⟩:=a;let ⟨E,K⟩:=Pr.Gz hp;have tK:v= .slice none 0 0:=hv;subst tK;have I:vm=none:=by cases vm with|none=>rfl|some _=>exact hm.elim
    subst I;refine⟨⟨.slice none 0 0,?_,J⟩,rk⟩;have M:(tP ae 0 0 vl vh none).run P W= .ok (0,0,0) W:=by
     unfold tP;rcases xg (P:=P) (W:=W) H E hh .sliceAcap with⟨_,rfl,rfl⟩|⟨u1,_,rfl,QP,Z⟩
     .rcases xg (P:=P) (W:=W) o K hl .sliceB with⟨_,rfl,rfl⟩|⟨u2,_,rfl,j,G⟩
      .simp[*]
      .have:l=0:=by omega
       subst this;simp[*]
     .have:f=0:=by omega
      subst this;rcases xg (P:=P) (W:=W) o K hl .sliceB with⟨_,rfl,rfl⟩|⟨u2,_,rfl,j,G⟩
      .simp[*]
      .have:l=0:=by omega
       subst this;simp[*]
    simp only[Bi,dn,run_underlying A,dx,XV,M,run_sizeOf B,R];simp[pure]
   .simp at a
  .simp at a
 .simp at a
def ajn(f:cq P tt=ae){t r:Y}{x y:AV}(d:Lj tt t x=ad y){v:aV}(o:bu g x v):(Builtin.len_ #[t] r #[v]).run P W= .ok (match y with| .c (.I k n)=> .int k n|_=>undef) W/\(∃n:Int,y= .c (.I .i64 n)):=by
 unfold Lj at d;split at d
 .rename_i B p;split at d
  .rename_i e s;split at d
   .rename_i C u i l _;simp only[ar]at d;subst d;have h2:=(eS f p).kind;rw[s]at h2;have m:∃a c,v= .slice a i c:=by
     cases l with
     |some c=>let ⟨b,A,h2⟩:=o;exact⟨_,c,h2⟩
     |none=>let ⟨H,b,c,A,h2,_⟩:=o;exact⟨_,c,h2⟩
    obtain⟨a,c,rfl⟩:=m;exact⟨KA,_,J⟩
   .simp at d
  .simp at d
 .simp at d
def XW(U:cq P tt=ae){ops}{i}{o:a4}{d:Y}(ho:ops[i]? =ad o)(hg:o.guard=none)(hd:o.dst=ad d){n}(dz:d<n)
 {Q}{x}{p}(f:D1 tt Q o.op=ad (x,p)) (hp:p) new:iA P n ops i (oo Q o.op) [(.s d,ad<|.v x)] new:=by
 refine sO ho hg hd dz _ x new ?_
 intro F X σ g W a A O
 have H:∀y∈o.op.operands,∀kx∈cJ Q y,σ kx.1=ad kx.2:=by intro y T kx R;exact O kx<|jb.2 ⟨y,by simpa using T,R⟩
 have k:∀y∈o.op.operands,∀u,Q.ev y=ad u->bu g u (a.eval y)/\∀b∈u.ak,X b:=by intro y T u N;exact⟨dA A Q y u N<|H y T,sM A Q y u N<|H y T⟩
 generalize L:o.op=op at f k H
 unfold D1 at f
 split at f
 .rename_i c y z;unfold XS at f;split at f
  .rename_i v S T;simp only[ar,bM]at f;obtain⟨rfl,rfl⟩:=f;have V:a.eval c= .bool ae:=(k c gU _ S).1;have K:=k y gU _ T;exact⟨K.2,_,by simp[execOp,L,V,asBool,kp,pure],K.1⟩
  .rename_i v S T;simp only[ar,bM]at f;obtain⟨rfl,rfl⟩:=f;have V:a.eval c= .bool false:=(k c gU _ S).1;have K:=k z gU _ T;exact⟨K.2,_,by simp[execOp,L,V,asBool,kp,pure],K.1⟩
  .simp at f
 .rename_i t y z;split at f
  .rename_i v w E hw;have K:=k y gU _ E;have Z:=k z gU _ hw;let ⟨⟨u,B,M⟩,G⟩:=ajl (P:=P) (W:=W) U f hp K.1 Z.1;exact⟨λb j=>K.2 b<|G b j,u,by simp[execOp,L,B,kp,pure],M⟩
  .simp at f
 .rename_i t y lo hi mx;split at f
  .rename_i v l h m E hl hh G;have K:=k y gU _ E;have Z:=GH A Q lo l hl<|λq hq=>H q GJ;have h3:=GH A Q hi h hh<|λq hq=>H q GJ;have h4:=GH A Q mx m G<|λq hq=>H q GJ;let ⟨⟨u,B,M⟩,G⟩:=ajm (P:=P) (W:=W) U f hp K.1 Z h3 h4;exact⟨λb j=>K.2 b<|G b j,u,by simp[execOp,L,B,kp,pure],M⟩
  .simp at f
 .rename_i args kV;split at f
  .rename_i y t ha ht;have D:args= #[y]:=GK;have I:kV= #[t]:=Ql;subst D I;split at f
   .rename_i v E;split at f
    .rename_i u N;simp only[ar,bM]at f;obtain⟨rfl,rfl⟩:=f;have K:=k y Dx _ E;obtain⟨B,n',rfl⟩:=ajn (P:=P) (W:=W) (r:=o.type) U N K.1;exact⟨rk,.int .i64 n',DY L (λcs=>by have e:(#[y]:Array eI).map a.eval= #[a.eval y]:=az;rw[e];simp only[Le,dn,B,dx];rfl),J⟩
    .simp at f
   .simp at f
  .simp at f
 .simp at f
end
section
variable{P:bW}{tt:TT}
def QQ{ops}{i}{o:a4}{d:Y}(ho:ops[i]? =ad o)(hg:o.guard=none)(hd:o.dst=ad d){n}(dz:d<n){cC}rd cs sz len A(p:Y)
  (dj:∀(iz:fj)(f:Y->Prop)(σ:Kn)(g:Gh)(W:cQ)(a:Act),bx iz f σ g W a->(∀kx∈rd,σ kx.1=ad kx.2)->
   (∀B∈bV cs,f B)/\∃(vs rest:V aV)(l:Y)(W1:cQ),aW g cs vs/\(execOp a.eval o).run P W= .ok (.value<|.slice (ad ⟨W.heap.size,0,none⟩) len l) {W1 with heap:=W.heap.push<|.cells (vs++rest).toArray cC (0,0)}/\
    W1.os=W.os/\W1.tape=W.tape/\W1.output=W.output/\(∀dQ,A=ad dQ->l=dQ)/\(sz≠0->Z (vs++rest)=l*sz)/\len<=l):
  iA P n ops i rd [(.s d,ad<|.v<|.c<|.L p 0 len A),(.m p,ad<|.b<|.box cC sz cs)] p:=by
 intro iz kO Q f σ g W a K U aR I R
 let ⟨hm,vs,rest,l,W1,S,j,e1,e2,e3,q,r,hlen⟩:=dj iz f σ g W a aR I
 unfold wpOp
 simp only[ho,gV,hg,cj]
 refine .inl ?_
 unfold nK
 rw[j]
 simp only[nL,hd]
 have N:d<a.tmps.size:=mD
 let X:Gh:=⟨g.H,λB=>if B=p then .slice (ad ⟨W.heap.size,0,none⟩) 0 l else g.γ B⟩
 have M:X.γ p= .slice (ad ⟨W.heap.size,0,none⟩) 0 l:=by simp[X]
 have w:gC f g X:=⟨cL.refl _,λB x=>by
  have:B≠p:=λe=>U<|e▸x
  simp[X,this]⟩
 have T:∀o,g.H W.heap.size o=none:=by
  intro o;cases hv:g.H W.heap.size o with
  |none=>rfl
  |some v=>
   have:=DC W _<|aR.sub _ _ _ hv
   simp at this
 have z:Sub g.H {W1 with heap:=W.heap.push<|.cells (vs++rest).toArray cC (0,0)}:=by have:=A1 aR.sub<|.cells (vs++rest).toArray cC (0,0);exact this
 refine R X _ _<|aR.step (chg:=λ_=>False) (g':=X) ⟨w,λ_ _ _=>rfl,z,az,λk G _=>DB W _ k G,e1,e2,e3⟩ _ p U mE aR.defers ?_ (λ_ dj=>dj.elim) ?_ ?_ ?_ ?_
 .intro t ht;have O:d≠t:=qn;simp[im,lE O]
 .intro t u ht;simp only[aE]at ht;split at ht
  .rename_i e;simp only[Key.s.injEq]at e;simp only[ar,Info.v.injEq]at ht;subst e;subst ht;have D:(a.put (ad d)<|.slice (ad ⟨W.heap.size,0,none⟩) len l).tmps.getD d undef= .slice (ad ⟨W.heap.size,0,none⟩) len l:=by simp[im,N]
   show c7 X _ _;rw[D];cases A with
   |some dQ=>have:=q dQ J;subst this;exact⟨W.heap.size,by rw[M];rfl,J⟩
   |none=>exact⟨J,W.heap.size,l,M,J,hlen⟩
  .split at ht
   .simp at ht
   .simp at ht
 .intro B b ht;simp only[aE,reduceCtorEq,bN]at ht;split at ht
  .rename_i e;simp only[Key.m.injEq]at e;subst e;simp only[ar,Info.b.injEq]at ht;subst ht;refine⟨⟨W.heap.size,vs,rest,by rw[M];rfl,az,aW.mono w hm S,.inl aR.below.size,T,λh0=>⟨l,M,r h0⟩⟩,.inr ⟨J,λk G=> .inl ?_⟩⟩;rw[M]at G;simp only[cE,ar]at G;omega
  .simp at ht
 .intro k y ht;simp only[aE]at ht;split at ht
  .simp only[ar]at ht;subst ht;intro B x;simp[Info.ak,AV.ak,C.ak]at x;exact .inr x
  .split at ht
   .simp only[ar]at ht;subst ht;exact λB x=> .inl<|hm B x
   .simp at ht
 .intro B y ht;simp only[aE,reduceCtorEq,bN]at ht;split at ht
  .rename_i e;simp only[Key.m.injEq]at e;exact .inr e.symm
  .simp at ht
def ajo(di:cq P tt=ae){H}{i}{o:a4}{d:Y}(ho:H[i]? =ad o)(hg:o.guard=none)(hd:o.dst=ad d){n}(dz:d<n){t}{x y}(b6:o.op= .makeSlice t x y)
 {st}{m:Y} {k k2}(hx:st.ev x=ad (.c<|.I k (m:Int))) (hy:st.ev y=ad (.c<|.I k2 (m:Int))) {cC}{ti f:TI} (oR:S t tt=ad ti) (hk:ti.kind= .sl cC) (ni:S cC tt=ad f) (G':0<f.size) (hb:m*f.bytes<=16777216) (nQ:m<=16777216) (p:Y):
  iA P n H i (oo st o.op) [(.s d,ad<|.v<|.c<|.L p 0 m<|ad m),(.m p,ad<|.b<|.box cC 0<|DU (f.zero.map ZV.qi) m)] p:=by
 refine QQ ho hg hd dz _ _ _ _ _ p ?_
 intro F X G g W a A C
 have w:a.eval x= .int k (m:Int):=dA A st x _ hx<|λkx b7=>C kx QF
 have h:a.eval y= .int k2 (m:Int):=dA A st y _ hy<|λkx b7=>C kx QF
 have r:=(eS di oR).kind
 rw[hk]at r
 let ⟨inf,K,M,Q,z,j,wZ⟩:=(eS di ni).info
 have B:Z (f.zero.map ZV.e9)=f.size:=QM
 have T:z.cells=(f.zero.map ZV.e9).toArray:=DH
 have U:(f.zero.map ZV.e9)≠[]:=by intro e;rw[e]at B;simp at B;omega
 have q:(inf.bytes:Int)*(m:Int)<=281474976710656:=by
  rw[Q];have:(f.bytes:Int)*(m:Int)=((m*f.bytes:Y):Int):=by rw[gG];simp
  rw[this];omega
 have l:=run_make (P:=P) W t cC inf z r K j k k2 m m O O q O
 refine⟨QL,(bc m<|f.zero.map ZV.e9).flatten,[],m,W,K8 (yG g f.zero) m,?_,J,J,J,λc D=>XT D,az,aO _⟩
 rw[execOp,b6]
 have u:madeCells z.cells (m*inf.size)=((bc m<|f.zero.map ZV.e9).flatten).toArray:=by rw[M,T,<-B,<-K0 _ m U];rfl
 simp only[bY]at l
 rw[u]at l
 simp only[w,h,dn,l,dx,iD]
 rfl
def ajp(di:cq P tt=ae){iz}{m:Y->Prop}{σ}{g}{W}{a}(H:bx iz m σ g W a){st}{o}{t d}{k}(b6:o.op= .buildSlice t d k){cC}{ei}{A}(G':0<ei.size)(ai':d*ei.size<=16777216)
  (n:vL tt st t d k.toList=ad (cC,ei,A)) (gN:∀kx∈oo st o.op,σ kx.1=ad kx.2):
  ∃v:V aV,(execOp a.eval o).run P W= .ok (.value<|.slice (ad ⟨W.heap.size,0,none⟩) d d) {W with heap:=W.heap.push<|.cells v.toArray cC (0,0)}/\aW g A v/\Z v=d*ei.size/\∀id∈bV A,m id:=by
 unfold vL at n
 split at n
 .rename_i ti X;split at n
  .rename_i I R;split at n
   .rename_i l ni;split at n
    .rename_i cs b;simp only[ar,bM]at n;obtain⟨rfl,rfl,rfl⟩:=n;have N:=(eS di X).kind;rw[R]at N;let ⟨inf,vC,K,_,z,hz,wZ⟩:=(eS di ni).info;have L:z.cells=(l.zero.map ZV.e9).toArray:=DH;let ⟨v,M,iZ,c,j⟩:=GU H st (vK l.size 0 d) (λi=>ad (i*l.size,l.size)) (λi x h=>by rw[K7 _ _ _ _ _ h];simp) k.toList _ _ _ b (K8 (yG g l.zero) d) (λp S kx q=>gN kx<|by rw[b6];refine jb.2 ⟨p.2,?_,q⟩;simp only[Op.operands,iJ];exact⟨p,S,J⟩) QL;have s:Z (l.zero.map ZV.e9)=l.size:=QM;have Q:Z v=d*l.size:=by rw[c,Xy,s]
     refine⟨v,?_,iZ,Q,j⟩;have B:execOp a.eval o=(do pure (.value<|<-G9 t d (k.map λ(i,x)=>(i,a.eval x)))):=vA;have T:(k.map λ(i,x)=>(i,a.eval x)).toList=k.toList.map λp=>(p.1,a.eval p.2):=az
     have r:(zeroValue I).run P W= .ok z W:=Qx;have u:((Array.range<|d*l.size).map<|λi=>(l.zero.map ZV.e9).toArray[i%(l.zero.map ZV.e9).toArray.size]!)=((bc d<|l.zero.map ZV.e9).flatten).toArray:=by have:=K0 (l.zero.map ZV.e9) d (by intro e;rw[e]at s;simp at s;omega);rw[s]at this;exact this
     have hb:(G9 t d<|k.map λ(i,x)=>(i,a.eval x)).run P W= .ok (.slice (ad ⟨W.heap.size,0,none⟩) d d) {W with heap:=W.heap.push<|.cells v.toArray I (0,0)}:=by
      unfold G9;rw[dn,run_underlying N];simp only[dx];rw[dn,run_sizeOf vC];simp only[dx,K];rw[w O];by_cases U:d*l.size=0
      .have C:d=0:=by
        rcases Nat.mul_eq_zero.1 U with h|h
        .exact h
        .omega
       subst C;have D:v=[]:=eT (by rw[Q];simp);subst D;have y:=M;simp only[DV,List.flatten_nil]at y;have G:∀f:Y->aV,(Array.range 0).map f= #[]:=λf=>by simp
       simp only[sU,cj,pure_bind,G,T,y];rfl
      .rw[w U];simp only[pure_bind,dn,r,dx,L,u,T,M];rfl
     rw[B,dn,hb];rfl
    .simp at n
   .simp at n
  .simp at n
 .simp at n
def ajq(B:cq P tt=ae){u}{i}{o:a4}{d:Y}(ho:u[i]? =ad o)(hg:o.guard=none)(hd:o.dst=ad d){n}(H:d<n){t f:Y}{k}(M:o.op= .buildSlice t f k)
 {T}{U}{Q}{cs}(x:0<Q.size) (l:f*Q.size<=16777216) (hv:vL tt T t f k.toList=ad (U,Q,cs)) (p:Y):
  iA P n u i (oo T o.op) [(.s d,ad<|.v<|.c<|.L p 0 f<|ad f),(.m p,ad<|.b<|.box U 0 cs)] p:=by
 refine QQ ho hg hd H _ _ _ _ _ p ?_
 intro F C h g W a y K
 let ⟨us,A,X,hl,hm⟩:=ajp B y M x l hv K
 exact⟨hm,us,[],f,W,X,by simpa using A,J,J,J,λc e=>XT e,az,aO _⟩
end
def ud(d:St)(sz:Y):AV->ax (Y×V C×V Y)
 | .c (.L id off len _)=>(match S id d.mem with
  |some (.box _ _ cs)=>if off+len*sz<=Z cs then ad (len,(aA off cs).take<|len*sz,[id])else none
  |some (.fz _ cs)=>if off+len*sz<=Z cs then ad (len,(aA off cs).take<|len*sz,[id])else none
  |_=>none)
 | .c (.S T a)=>if T.n=sz then ad (Z a,a.flatMap<|av T,[])else none
 | .c (.V<|.slice none 0 0)=>ad (0,[],[])
 |_=>none
section
variable{P:bW}{tt:TT}
def QR{u}(a:oq u=ae):u.oneCell'=ae:=by revert a;cases u<;>simp[oq,Value.oneCell']
def XX{T:ET}:∀(f:V T.den),∀d∈f.flatMap (av T),kq d=ae
 |[],d,a=>by simp at a
 |y::f,d,a=>by
  simp only[lG,bg]at a;rcases a with a|a
  .exact DD T y d a
  .exact XX f d a
def XY{T:ET}:∀(f:V T.den),bV (f.flatMap<|av T)=[]
 |[]=>rfl
 |y::f=>by
  refine QK.2 λg a=>?_
  rw[lG]at a;rcases Dz _ _ g a with d|d
  .rw[GN]at d;cases d
  .rw[XY f]at d;cases d
def XZ{g:Gh}(T:ET):∀(xs:V T.den)(vs:V aV),Z vs=Z xs*T.n->(∀i(a:i<Z xs),cZ g.H T xs[i] ((aA (i*T.n) vs).take T.n))->aW g (xs.flatMap<|av T) vs
 |[],vs,hl,_=>by have:vs=[]:=eT vw;subst this;rfl
 |x::xs,vs,hl,a=>by rw[lG];have d:=a 0 az;simp only[sU,qu,vu]at d;have:=aW.append (yq (g:=g) T x _ d) (XZ T xs (aA T.n vs) (by simp at hl⊢;rw[hl,gO];omega)<|λi f=>by have:=a (i+1) (by simpa using f);simp only[AU]at this;rw[qp];rw[(GG:T.n+i*T.n=(i+1)*T.n)];exact this);rwa[sI]at this
def Bj{iz}{s:Y->Prop}{σ}{g}{W}{a}(i:bx iz s σ g W a){st}{y}{sz m}{cs}{ids}(k:ud st sz y=ad (m,cs,ids)){v}(U:bu g y v)
  (gN:∀M∈ids,∀Q,S M st.mem=ad Q->σ (.m M)=ad (.b Q)) {t dN}(hu:P.underlying t=ad (.slice dN)) (sY:cs.all kq=ae):
  ∃L:V aV,Src P sz t v m L W/\aW g cs L/\(∀M∈bV cs,s M)/\∀u∈L,oq u=ae:=by
 have o:∀L,aW g cs L->∀u∈L,oq u=ae:=λL K=>K.one<|λc hc=>jS.1 sY c hc
 unfold ud at k
 split at k
 .rename_i M d f X;split at k
  .rename_i E bz q N;split at k
   .rename_i G;simp only[ar,bM]at k;obtain⟨rfl,rfl,rfl⟩:=k;have x:=gN M az _ N;let ⟨Q,vs,rest,l,hh,K,hN,hz,xh⟩:=i.cX M _ x;have A:∃c,v= .slice (ad ⟨Q,d,none⟩) f c:=by
     cases X with
     |some c=>
      let ⟨O,p,h2⟩:=U
      rw[l]at p
      cases p
      exact⟨c,h2⟩
     |none=>
      let ⟨R,O,c,p,h2,_⟩:=U
      rw[p]at l
      simp only[cE,ar]at l
      subst l R
      exact⟨c,h2⟩
    obtain⟨c,rfl⟩:=A;have n:aW g ((aA d q).take<|f*sz) ((aA d vs).take<|f*sz):=(K.drop d).take _;have vI:=K.length;have B:Z ((aA d vs).take<|f*sz)=f*sz:=b8;refine⟨_,Src.ofSlice W hu ⟨Q,d,none⟩ f c _ B ?_<|λu r=>QR<|o _ n u r,n,?_,o _ n⟩
    .intro j u hj;let ⟨w,C⟩:=sQ.1 hj;simp only[qk,tQ]at C;have z:d+j<Z vs:=by rw[B]at w;omega
     simp only[lF];rw[vz hh (d+j) b8,wX z,C]
    .intro D H;exact i.ak _ _ x D<|GB _ _ _<|Dt _ _ _ H
   .simp at k
  .rename_i E q N;split at k
   .rename_i G;simp only[ar,bM]at k;obtain⟨rfl,rfl,rfl⟩:=k;have x:=gN M az _ N;let ⟨Q,vs,rest,l,hh,K,hN,hz⟩:=i.cX M _ x;have A:∃c,v= .slice (ad ⟨Q,d,none⟩) f c:=by
     cases X with
     |some c=>
      let ⟨O,p,h2⟩:=U
      rw[l]at p
      cases p
      exact⟨c,h2⟩
     |none=>
      let ⟨R,O,c,p,h2,_⟩:=U
      rw[p]at l
      simp only[cE,ar]at l
      subst l R
      exact⟨c,h2⟩
    obtain⟨c,rfl⟩:=A;have n:aW g ((aA d q).take<|f*sz) ((aA d vs).take<|f*sz):=(K.drop d).take _;have vI:=K.length;have B:Z ((aA d vs).take<|f*sz)=f*sz:=b8;refine⟨_,Src.ofSlice W hu ⟨Q,d,none⟩ f c _ B ?_<|λu r=>QR<|o _ n u r,n,?_,o _ n⟩
    .intro j u hj;let ⟨w,C⟩:=sQ.1 hj;simp only[qk,tQ]at C;have z:d+j<Z vs:=by rw[B]at w;omega
     simp only[lF];rw[vz hh (d+j) b8,wX z,C]
    .intro D H;exact i.ak _ _ x D<|GB _ _ _<|Dt _ _ _ H
   .simp at k
  .simp at k
 .rename_i T ys;split at k
  .rename_i hT;simp only[ar,bM]at k;obtain⟨rfl,rfl,rfl⟩:=k;subst hT;let ⟨L,p,h2,h3,h4⟩:=XI (P:=P) U;have I:∀w':cQ,(XJ v).run P w'= .ok (Z ys) w':=by obtain⟨a,X,rfl,_⟩:=U;intro w';rfl
   exact⟨L,⟨.inl ⟨_,hu⟩,I,p W i.sub,p W.drew i.sub,h2,λu hu=>QR<|h4 u hu⟩,XZ T ys L h2 h3,by rw[XY];simp,h4⟩
  .simp at k
 .simp only[ar,bM]at k;obtain⟨rfl,rfl,rfl⟩:=k;have A:v= .slice none 0 0:=U;subst A;exact⟨[],Src.ofNil W hu 0,J,by simp[bV],az⟩
 .simp at k
def X0{W}{n o ty p}{a:TypeInfo}(i:P.underlying n=ad (.slice p))(x:P.info? p=ad a){b off sLen sCap}{y}{m}
 {d vs}{s}(k:Src P a.size o y m d W) (A:W.heap[b]? =ad (.cells vs.toArray s (0,0))) (f:∀u∈d,oq u=ae) (l:sLen+m<=sCap) (t:off+sLen*a.size+Z d<=Z vs):
  (xc #[n,o] ty #[.slice (ad ⟨b,off,none⟩) sLen sCap,y]).run P W= .ok (.slice (ad ⟨b,off,none⟩) (sLen+m) sCap) (jo W b (c9 vs d<|off+sLen*a.size) s):=by
 have g:=AW (P:=P) b d W vs (off+sLen*a.size) 0 A O f
 simp only[jy]at g
 rcases k.kind with⟨B,v⟩|v<;>
  simp[xc,run_underlying i,run_underlying v,sizeOf,typeInfo,x,k.len,l,k.cells,lF,g]
end
section
variable{P:bW}{tt:TT}
structure D2(P:bW)(d t2 E:dX)(sz:Y)(bytes:Y):Prop where
 u1:P.underlying d=ad (.slice E)
 u2:∃e,P.underlying t2=ad (.slice e)
 info:∃a z,P.info? E=ad a/\a.size=sz/\a.bytes=bytes/\a.zero=ad z/\z.cells.size=sz
 pos:0<sz
def QT(a:St)(sz:Y):AV->ax (Y×Y×V C×V Y)
 | .c (.L id off len<|ad d)=>(match S id a.mem with
  |some (.box _ _ cs)=>if off+len*sz<=Z cs then ad (len,d,(aA off cs).take<|len*sz,[id])else none
  |_=>none)
 | .c (.V<|.slice none 0 0)=>ad (0,0,[],[])
 |_=>none
def xi{st}{ids}{σ:Kn}(g:∀kx∈fL st ids,σ kx.1=ad kx.2):∀a∈ids,∀d,S a st.mem=ad d->σ (.m a)=ad (.b d):=by intro a f d i;exact g (.m a,.b d)<|jb.2 ⟨a,f,by simp[i]⟩
def Ll{a:Act}{o}{x y}{f g}(d:o.op= .call ⟨.builtin .append,#[x,y],#[f,g]⟩){W i}{v}(k:(xc #[f,g] o.type #[a.eval x,a.eval y]).run P W= .ok v i):(execOp a.eval o).run P W= .ok (.value v) i:=by refine DY d<|λl=>?_;have e:(#[x,y]:Array eI).map a.eval= #[a.eval x,a.eval y]:=az;rw[e];simp only[Le,dn,k,dx];rfl
def X2{ops}{i}{o:a4}{d:Y}(ho:ops[i]? =ad o)(hg:o.guard=none)(hd:o.dst=ad d){n}(dz:d<n){x y}{t1 t2}(b6:o.op= .call ⟨.builtin .append,#[x,y],#[t1,t2]⟩)
 {H}{U}{sz A}(hT:D2 P t1 t2 U sz A) {vx vy:AV} (hx:H.ev x=ad vx) (hy:H.ev y=ad vy) {len c m:Y} {cb cs:V C} {ib is:V Y} (p:QT H sz vx=ad (len,c,cb,ib)) (hs:ud H sz vy=ad (m,cs,is)) (sY:cs.all kq=ae)
  (Hg:c<len+m) (M:((len+m)+(len+m)/4+192)*A<=281474976710656) (ajr:len+m<=140737488355328) (Q:Y):
  iA P n ops i (cJ H x++cJ H y++fL H (ib++is)) [(.s d,ad<|.v<|.c<|.L Q 0 (len+m) none),(.m Q,ad<|.b<|.box U sz<|cb++cs)] Q:=by
 refine QQ ho hg hd dz _ _ _ _ _ Q ?_
 intro F X σ g W a k e
 have w:=dA k H x _ hx<|λkx b7=>e kx ef
 have uc:=dA k H y _ hy<|λkx b7=>e kx ef
 have D:=xi (st:=H) (ids:=ib++is) (σ:=σ)<|λkx b7=>e kx ef
 let ⟨e2,iZ⟩:=hT.u2
 let ⟨inf,z,G,sX,I,xd,ua⟩:=hT.info
 let ⟨us,yP,xj,rI,xk⟩:=Bj (P:=P) k hs uc (λK q b p=>D K (gD _ q) b p) iZ sY
 have r:∃(base:ax Addr)(f:V aV),a.eval x= .slice base len c/\aW g cb f/\Z f=len*sz/\(∀K∈bV cb,X K)/\(yO inf.size len<|.slice base len c).run P W.drew= .ok f.toArray W.drew:=by
  unfold QT at p;split at p
  .rename_i K t l c';split at p
   .rename_i E' bz oZ hl;split at p
    .rename_i Lm;simp only[ar,bM]at p;obtain⟨rfl,rfl,rfl,rfl⟩:=p;have N:=D K az _ hl;let ⟨b,vs,rest,hγ,hh,hr,hN,hz,xh⟩:=k.cX K _ N;let ⟨b',h1,h2⟩:=w;rw[hγ]at h1;cases h1;have vI:=hr.length;have B:Z ((aA t vs).take<|l*sz)=l*sz:=b8;refine⟨_,(aA t vs).take<|l*sz,h2,(hr.drop t).take _,B,?_,?_⟩
     .intro rH R;exact k.ak _ _ N rH<|GB _ _ _<|Dt _ _ _ R
     .rw[sX];refine run_firstCells_some W.drew sz l ⟨b,t,none⟩ l c' _ B ?_;intro j u hj;let ⟨Dj,S⟩:=sQ.1 hj;simp only[qk,tQ]at S;have Hh:t+j<Z vs:=by rw[B]at Dj;omega
      simp only[lF];have He:W.drew.heap[b]? =ad (.cells (vs++rest).toArray E' (0,0)):=hh;rw[vz He (t+j) b8,wX Hh,S]
    .simp at p
   .simp at p
  .simp only[ar,bM]at p;obtain⟨rfl,rfl,rfl,rfl⟩:=p;have tK:a.eval x= .slice none 0 0:=w;exact⟨none,[],tK,J,az,by simp[bV],run_firstCells_none W.drew _ 0 0 0⟩
  .simp at p
 let ⟨base,f,D3,hro,Hb,Hi,QU⟩:=r
 have hr:=run_append_grow_src (P:=P) W t1 t2 o.type U inf z hT.u1 G xd base len c f QU (a.eval y) m us Ln Hg O (growslice_fits_wide Hg<|by rw[I];exact M)
 have tR:=grownCap_ge W (len+m) c U
 refine⟨?_,f++us,(Ld z.cells<|grownCap W (len+m) c U-(len+m)).toList,grownCap W (len+m) c U,W.drew,hro.append xj,?_,J,J,J,az,λ_=>?_,tR⟩
 .intro K q;rcases Dz _ _ K q with h|h
  .exact Hi K h
  .exact rI K h
 .refine Ll b6 ?_;rw[D3,hr];have T:(f++us).toArray++Ld z.cells (grownCap W (len+m) c U-(len+m))=(f++us++(Ld z.cells<|grownCap W (len+m) c U-(len+m)).toList).toArray:=by apply Dy;simp
  rw[T];rfl
 .have B:=yP.newsLen;simp only[iq,Hb,B,Hc,size_zeroCells,ua,<-gO];congr 1;omega
def ajt{t}{i}{o:a4}{d:Y}(ho:t[i]? =ad o)(hg:o.guard=none)(hd:o.dst=ad d){n}(H:d<n){x y}{t1 t2}(L:o.op= .call ⟨.builtin .append,#[x,y],#[t1,t2]⟩)
 {k}{cC}{sz m}(M:D2 P t1 t2 cC sz m) {vy:AV} (hx:k.ev x=ad (.c<|.V<|.slice none 0 0)) (hy:k.ev y=ad vy) {cs:V C} {is:V Y} (hs:ud k sz vy=ad (0,cs,is)) (Q:cs.all kq=ae) (u:Y):
  iA P n t i (cJ k x++cJ k y++fL k is) [(.s d,ad<|.v<|.c<|.V<|.slice none 0 0)] u:=by
 refine sO ho hg hd H _ _ u ?_
 intro F K h g W a f p
 have T:a.eval x= .slice none 0 0:=dA f k x _ hx<|λkx b7=>p kx ef
 have U:=dA f k y _ hy<|λkx b7=>p kx ef
 have X:=xi (st:=k) (ids:=is) (σ:=h)<|λkx b7=>p kx ef
 let ⟨G,iZ⟩:=M.u2
 let ⟨inf,z,A,B,b,j,q⟩:=M.info
 let ⟨us,l,r,w,D⟩:=Bj (P:=P) f hs U X iZ Q
 refine⟨rk,.slice none 0 0,Ll L ?_,J⟩
 rw[T]
 have e:=l.cells
 rw[<-B]at e
 simp[xc,run_underlying M.u1,run_underlying iZ,sizeOf,typeInfo,A,l.len]
 rw[e]
 rfl
end
section
variable{P:bW}{tt:TT}
def Hj{a:Act}{d t}{v}{g:V (Key×ax Info)}{x}(ht:aE ((.s d,x)::g) (.s t)=none):(a.put (ad d) v).tmps.getD t undef=a.tmps.getD t undef:=by have f:d≠t:=qn;simp[im,lE f]
def aju{ops}{i}{o:a4}{d:Y}(ho:ops[i]? =ad o)(hg:o.guard=none)(hd:o.dst=ad d){n}(dz:d<n){x y}{t1 t2}(b6:o.op= .call ⟨.builtin .append,#[x,y],#[t1,t2]⟩)
 {M}{cC}{sz bytes}(hT:D2 P t1 t2 cC sz bytes) {B p f dQ:Y} {vy:AV} (hx:M.ev x=ad (.c<|.L B p f<|ad dQ)) (hy:M.ev y=ad vy) {Eb:dX} {bz:Y} {oZ:V C} (hl:S B M.mem=ad (.box Eb bz oZ)) {m:Y} {cs:V C} {is:V Y} (hs:ud M sz vy=ad (m,cs,is)) (sY:cs.all kq=ae)
  (hle:f+m<=dQ) (Lm:p+(f+m)*sz<=Z oZ) (new:Y):
  iA P n ops i (cJ M x++cJ M y++fL M (B::is)) [(.s d,ad<|.v<|.c<|.L B p (f+m)<|ad dQ),(.m B,ad<|.b<|.box Eb bz<|c9 oZ cs<|p+f*sz)] new:=by
 intro F kO Q known σ g W a K w aR X hK
 have sW:=dA aR M x _ hx<|λkx b7=>X kx ef
 have uc:=dA aR M y _ hy<|λkx b7=>X kx ef
 have D:=xi (st:=M) (ids:=B::is) (σ:=σ)<|λkx b7=>X kx Lo
 let ⟨e2,iZ⟩:=hT.u2
 let ⟨inf,z,G,sX,DZ,xd,ua⟩:=hT.info
 let ⟨us,yP,I,rI,xk⟩:=Bj (P:=P) aR hs uc (λB fe b hb=>D B (ko _ fe) b hb) iZ sY
 have A:=D B az _ hl
 let ⟨b,vs,rest,T,hh,hr,hN,hz,xh⟩:=aR.cX B _ A
 let ⟨b',h1,D3⟩:=sW
 rw[T]at h1
 cases h1
 have mc:=yP.newsLen
 have sK:=I.length
 have vI:=hr.length
 have uf:(f+m)*sz=f*sz+m*sz:=gO _ _ _
 have q:p+f*sz+Z us<=Z vs:=O
 have U:=X0 (P:=P) (ty:=o.type) (W:=W) hT.u1 G (b:=b) (off:=p) (sLen:=f) (sCap:=dQ) Ln hh xk hle (by rw[sX];simp;omega)
 rw[sX]at U
 have N:c9 (vs++rest) us (p+f*sz)=c9 vs us (p+f*sz)++rest:=Qp vs rest us _ q
 unfold wpOp
 simp only[ho,gV,hg,cj]
 refine .inl ?_
 unfold nK
 rw[Ll b6 (by rw[D3];exact U)]
 simp only[nL,hd]
 have R:d<a.tmps.size:=mD
 have hb:b<W.heap.size:=(gL.1 hh).1
 refine hK g _ _<|aR.step (chg:=λj=>j=B) (g':=g) ⟨⟨cL.refl _,λ_ _=>rfl⟩,λ_ _ _=>rfl,AX aR.sub hz,AZ,?_,J,J,J⟩ _ new w mE aR.defers (λt r=>Hj r) ?_ ?_ ?_ ?_ ?_
 .intro k hk gM;have:b≠k:=λe=>gM B J (by rw[T,e])
  exact yC this
 .intro j H;subst H;exact⟨yF,_,A⟩
 .intro t u r;simp only[aE]at r;split at r
  .rename_i e;simp only[Key.s.injEq]at e;simp only[ar,Info.v.injEq]at r;subst e;subst r;refine⟨b,T,?_⟩;simp[im,R]
  .simp at r
 .intro j bk H;simp only[aE,reduceCtorEq,bN]at H;split at H
  .rename_i e';simp only[Key.m.injEq]at e';subst e';simp only[ar,Info.b.injEq]at H;subst H;refine⟨⟨b,c9 vs us<|p+f*sz,rest,T,by rw[yB hb,N],hr.c9 I _,hN,hz,λh0=>?_⟩,.inl ⟨aR.ew _ _ A,_,A⟩⟩;let ⟨c',e1,e2⟩:=xh h0;refine⟨c',e1,?_⟩;rw[<-N,yD _ _ _ b8];exact e2
  .simp at H
 .intro k z' l;simp only[aE]at l;split at l
  .simp only[ar]at l;subst l;intro j H;simp[Info.ak,AV.ak,C.ak]at H;subst H;exact .inl<|aR.ew _ _ A
  .split at l
   .simp only[ar]at l;subst l;intro j H;rcases GQ _ _ _ j H with h|h
    .exact .inl<|aR.ak _ _ A j h
    .exact .inl<|rI j h
   .simp at l
 .intro j z' l;simp only[aE,reduceCtorEq,bN]at l;split at l
  .rename_i e';simp only[Key.m.injEq]at e';subst e';exact .inl<|aR.ew _ _ A
  .simp at l
def ajv{ops}{i}{o:a4}{d:Y}(ho:ops[i]? =ad o)(hg:o.guard=none)(hd:o.dst=ad d){n}(dz:d<n){x y}{t1 t2}(b6:o.op= .call ⟨.builtin .append,#[x,y],#[t1,t2]⟩)
 {st}{cC}{sz bytes}(hT:D2 P t1 t2 cC sz bytes) {A off f:Y} {vy:AV} (hx:st.ev x=ad (.c<|.L A off f none)) (hy:st.ev y=ad vy) {oZ:V C} (hl:S A st.mem=ad (.box cC sz oZ)) {m:Y} {cs:V C} {is:V Y} (hs:ud st sz vy=ad (m,cs,is)) (sY:cs.all kq=ae)
  (Lm:f*sz<=Z oZ) (ajw:((f+m)+(f+m)/4+192)*bytes<=281474976710656) (ajr:f+m<=140737488355328) (B:Y):
  iA P n ops i (cJ st x++cJ st y++fL st (A::is)) [(.s d,ad<|.v<|.c<|.L B 0 (f+m) none),(.m B,ad<|.b<|.box cC sz<|c (f*sz) oZ++cs),(.m A,none)] B:=by
 intro F kO Q X σ g W a K q aR gN hK
 have sW:=dA aR st x _ hx<|λkx b7=>gN kx ef
 have uc:=dA aR st y _ hy<|λkx b7=>gN kx ef
 have nk:=xi (st:=st) (ids:=A::is) (σ:=σ)<|λkx b7=>gN kx Lo
 let ⟨e2,iZ⟩:=hT.u2
 let ⟨inf,z,vC,sX,DZ,xd,ua⟩:=hT.info
 let ⟨us,yP,xj,rI,xk⟩:=Bj (P:=P) aR hs uc (λA fe b hb=>nk A (ko _ fe) b hb) iZ sY
 have r:=nk A az _ hl
 have G':=hT.pos
 let ⟨b,vs,rest,hγ,hh,hr,hN,hz,xh⟩:=aR.cX A _ r
 let ⟨w,ajx,ajy⟩:=xh O
 let ⟨h0,b',c',h1,D3,hlc⟩:=sW
 rw[ajx]at h1
 simp only[Value.slice.injEq,ar,Addr.mk.injEq,and_true,true_and]at h1
 obtain⟨rfl,rfl⟩:=h1
 have mc:=yP.newsLen
 have sK:=xj.length
 have vI:=hr.length
 have X3:A≠B:=λe=>q<|e▸aR.ew _ _ r
 have I:∀o,g.H W.heap.size o=none:=by
  intro o;cases hv:g.H W.heap.size o with
  |none=>rfl
  |some v=>
   have:=DC W _<|aR.sub _ _ _ hv
   simp at this
 have hbW:b<W.heap.size:=(gL.1 hh).1
 have D:(c (f*sz) vs).length=f*sz:=b8
 have X4:aW g (c (f*sz) oZ++cs) (c (f*sz) vs++us):=(hr.take _).append xj
 have G:∀j∈bV (c (f*sz) oZ++cs),X j:=by
  intro j M;rcases Dz _ _ j M with h|h
  .exact aR.ak _ _ r j<|Dt _ _ _ h
  .exact rI j h
 have QV:∃(v':aV)(R:cQ)(b' c':Y)(p:V aV),(xc #[t1,t2] o.type #[a.eval x,a.eval y]).run P W= .ok v' R/\v'= .slice (ad ⟨b',0,none⟩) (f+m) c'/\f+m<=c'/\
   R.heap[b']? =ad (.cells (c (f*sz) vs++us++p).toArray cC (0,0))/\(c (f*sz) vs++us++p).length=c'*sz/\W.heap.size<=R.heap.size/\(∀k,k<W.heap.size->b≠k->R.heap[k]? =W.heap[k]?)/\R.os=W.os/\R.tape=W.tape/\R.output=W.output/\Sub g.H R/\(∀o,g.H b' o=none)/\F.N b'/\(W.heap.size<=b'\/b'=b):=by
  by_cases T:f+m<=w
  .have uf:(f+m)*sz<=w*sz:=eC _ T;rw[gO]at uf;have Hd:Z (vs++rest)=Z vs+Z rest:=iq;have U:=X0 (P:=P) (ty:=o.type) (W:=W) hT.u1 vC (b:=b) (off:=0) (sLen:=f) (sCap:=w) Ln hh xk T (by rw[sX];omega);rw[sX,ff]at U;have Bk:c9 (vs++rest) us (f*sz)=c (f*sz) vs++us++aA (f*sz+Z us) (vs++rest):=by unfold c9;rw[wY O]
   refine⟨_,_,b,w,aA (f*sz+Z us)<|vs++rest,by rw[D3];exact U,J,T,by rw[yB hbW,Bk],?_,AZ,λk _ hk=>yC hk,J,J,J,AX aR.sub hz,hz,hN,.inr J⟩;rw[<-Bk,yD _ _ _ O];exact ajy
  .have QU:(yO inf.size f<|.slice (ad ⟨b,0,none⟩) f w).run P W.drew= .ok (c (f*sz) vs).toArray W.drew:=by
    rw[sX];refine run_firstCells_some W.drew sz f ⟨b,0,none⟩ f w _ D ?_;intro j u M;let ⟨Dj,vp⟩:=sQ.1 M;simp only[qk]at vp;have Hh:j<Z vs:=by rw[D]at Dj;omega
    simp only[lF,ff];have He:W.drew.heap[b]? =ad (.cells (vs++rest).toArray cC (0,0)):=hh;rw[vz He j b8,wX Hh,vp]
   have Hg:w<f+m:=O;have hr':=run_append_grow_src (P:=P) W t1 t2 o.type cC inf z hT.u1 vC xd (ad ⟨b,0,none⟩) f w _ QU (a.eval y) m us Ln Hg O (growslice_fits_wide Hg<|by rw[DZ];exact ajw);have tR:=grownCap_ge W (f+m) w cC;refine⟨_,_,W.heap.size,grownCap W (f+m) w cC,(Ld z.cells<|grownCap W (f+m) w cC-(f+m)).toList,by rw[D3];exact hr',J,tR,?_,?_,az,λk hk _=>heap_alloc_old W.drew _ hk,J,J,J,A1 aR.sub _,I,.inl aR.below.size,.inl (aO _)⟩
   .rw[show W.heap.size=W.drew.heap.size from J,heap_alloc_new];congr 2;apply Dy;simp
   .simp only[iq,D,mc,Hc,size_zeroCells,ua,<-gO];congr 1;omega
 let ⟨v',R,bn,cn,p,U,tK,QW,hhn,htn,ajE,ajF,ho1,ho2,ho3,ajJ,hHn,hNn,ajM⟩:=QV
 unfold wpOp
 simp only[ho,gV,hg,cj]
 refine .inl ?_
 unfold nK
 rw[Ll b6 U]
 simp only[nL,hd]
 have xe:d<a.tmps.size:=mD
 let g':Gh:=⟨g.H,λA=>if A=B then .slice (ad ⟨bn,0,none⟩) 0 cn else g.γ A⟩
 have Lp:g'.γ B= .slice (ad ⟨bn,0,none⟩) 0 cn:=by simp[g']
 have yR:gC X g g':=⟨cL.refl _,λA fe=>by
  have:A≠B:=λe=>q<|e▸fe
  simp[g',this]⟩
 refine hK g' _ _<|aR.step (chg:=λj=>j=A) (g':=g') ⟨yR,λ_ _ _=>rfl,ajJ,ajE,?_,ho1,ho2,ho3⟩ _ B q mE aR.defers (λt ht=>Hj ht) ?_ ?_ ?_ ?_ ?_
 .intro k hk gM;exact ajF k hk (λe=>gM A J<|by rw[hγ,e])
 .intro j M;subst M;exact⟨by simp[aE,Ne.symm X3],_,r⟩
 .intro t u ht;simp only[aE]at ht;split at ht
  .rename_i e;simp only[Key.s.injEq]at e;simp only[ar,Info.v.injEq]at ht;subst e;subst ht;refine⟨J,bn,cn,Lp,?_,QW⟩;simp[im,xe,tK]
  .simp at ht
 .intro j bk M;simp only[aE,reduceCtorEq,bN]at M;split at M
  .rename_i e';simp only[Key.m.injEq]at e';subst e';simp only[ar,Info.b.injEq]at M;subst M;refine⟨⟨bn,_,p,by rw[Lp];rfl,hhn,aW.mono yR G X4,hNn,hHn,λ_=>⟨cn,Lp,htn⟩⟩,.inr ⟨J,λk hk=>?_⟩⟩;rw[Lp]at hk;simp only[cE,ar]at hk;subst hk;rcases ajM with h|h
   .exact .inl h
   .refine .inr ⟨A,_,r,?_,by rw[hγ,h]⟩;simp[aE,Ne.symm X3]
  .split at M<;>simp at M
 .intro k z' l;simp only[aE]at l;split at l
  .simp only[ar]at l;subst l;intro j M;simp[Info.ak,AV.ak,C.ak]at M;exact .inr M
  .split at l
   .simp only[ar]at l;subst l;exact λj M=> .inl<|G j M
   .split at l<;>simp at l
 .intro j z' l;simp only[aE,reduceCtorEq,bN]at l;split at l
  .rename_i e';simp only[Key.m.injEq]at e';exact .inr e'.symm
  .split at l<;>simp at l
end
section
variable{P:bW}{tt:TT}
def ajN{ops}{i}{o:a4}{d:Y}(ho:ops[i]? =ad o)(hg:o.guard=none)(hd:o.dst=ad d){n}(dz:d<n){x y}{t1 t2}(b6:o.op= .call ⟨.builtin .copy,#[x,y],#[t1,t2]⟩)
 {T}{cC}{sz bytes}(hT:D2 P t1 t2 cC sz bytes) {B l U:Y} {X5:ax Y} {vy:AV} (hx:T.ev x=ad (.c<|.L B l U X5)) (hy:T.ev y=ad vy) {Eb:dX} {bz:Y} {oZ:V C} (hl:S B T.mem=ad (.box Eb bz oZ)) {m:Y} {cs:V C} {is:V Y} (hs:ud T sz vy=ad (m,cs,is)) (sY:cs.all kq=ae)
  (hle:m<=U) (Lm:l+m*sz<=Z oZ) (new:Y):
  iA P n ops i (cJ T x++cJ T y++fL T (B::is)) [(.s d,ad<|.v<|.c<|.I .i64 m),(.m B,ad<|.b<|.box Eb bz<|c9 oZ cs l)] new:=by
 intro F kO Q known σ g W a K D aR X hK
 have G:=dA aR T x _ hx<|λkx b7=>X kx ef
 have uc:=dA aR T y _ hy<|λkx b7=>X kx ef
 have N:=xi (st:=T) (ids:=B::is) (σ:=σ)<|λkx b7=>X kx Lo
 let ⟨e2,iZ⟩:=hT.u2
 let ⟨inf,z,R,sX,DZ,xd,ua⟩:=hT.info
 let ⟨us,H,xj,rI,xk⟩:=Bj (P:=P) aR hs uc (λB fe b hb=>N B (ko _ fe) b hb) iZ sY
 have p:=N B az _ hl
 let ⟨b,vs,rest,A,hh,hr,hN,hz,xh⟩:=aR.cX B _ p
 have q:∃c,a.eval x= .slice (ad ⟨b,l,none⟩) U c:=by
  cases X5 with
  |some c=>
   let ⟨b',h1,h2⟩:=G
   rw[A]at h1
   cases h1
   exact⟨c,h2⟩
  |none=>
   let ⟨h0,b',c,h1,h2,_⟩:=G
   rw[h1]at A
   simp only[cE,ar]at A
   subst A h0
   exact⟨c,h2⟩
 let ⟨c,q⟩:=q
 have mc:=H.newsLen
 have sK:=xj.length
 have vI:=hr.length
 have r:l+Z us<=Z vs:=O
 have rJ:=AW (P:=P) b us W (vs++rest) l 0 hh b8 xk
 simp only[jy]at rJ
 have Bk:c9 (vs++rest) us l=c9 vs us l++rest:=Qp vs rest us _ r
 have jc:(Builtin.copy_ #[t1,t2] o.type #[a.eval x,a.eval y]).run P W= .ok (.int .i64 m) (jo W b (c9 (vs++rest) us l) Eb):=by rw[q];have QX:Nat.min m U=m:=oh hle;have hc:=H.cells;simp[Builtin.copy_,run_underlying hT.u1,sizeOf,typeInfo,R,H.len,QX,sX,hc,rJ,goInt,kp,pure]
 have hex:(execOp a.eval o).run P W= .ok (.value<|.int .i64 m) (jo W b (c9 (vs++rest) us l) Eb):=by refine DY b6<|λcs=>?_;have e:(#[x,y]:Array eI).map a.eval= #[a.eval x,a.eval y]:=az;rw[e];simp only[Le,dn,jc,dx];rfl
 unfold wpOp
 simp only[ho,gV,hg,cj]
 refine .inl ?_
 unfold nK
 rw[hex]
 simp only[nL,hd]
 have xe:d<a.tmps.size:=mD
 have hb:b<W.heap.size:=(gL.1 hh).1
 refine hK g _ _<|aR.step (chg:=λj=>j=B) (g':=g) ⟨⟨cL.refl _,λ_ _=>rfl⟩,λ_ _ _=>rfl,AX aR.sub hz,AZ,?_,J,J,J⟩ _ new D mE aR.defers (λt w=>Hj w) ?_ ?_ ?_ ?_ ?_
 .intro k hk gM;have:b≠k:=λe=>gM B J (by rw[A,e])
  exact yC this
 .intro j M;subst M;exact⟨yF,_,p⟩
 .intro t u w;simp only[aE]at w;split at w
  .rename_i e;simp only[Key.s.injEq]at e;simp only[ar,Info.v.injEq]at w;subst e;subst w;simp[im,xe,bu,c7]
  .simp at w
 .intro j bk M;simp only[aE,reduceCtorEq,bN]at M;split at M
  .rename_i e';simp only[Key.m.injEq]at e';subst e';simp only[ar,Info.b.injEq]at M;subst M;refine⟨⟨b,c9 vs us l,rest,A,by rw[yB hb,Bk],hr.c9 xj _,hN,hz,λh0=>?_⟩,.inl ⟨aR.ew _ _ p,_,p⟩⟩;let ⟨c',e1,e2⟩:=xh h0;refine⟨c',e1,?_⟩;rw[<-Bk,yD _ _ _ b8];exact e2
  .simp at M
 .intro k z' f;simp only[aE]at f;split at f
  .simp only[ar]at f;subst f;intro j M;simp[Info.ak,AV.ak,C.ak]at M
  .split at f
   .simp only[ar]at f;subst f;intro j M;rcases GQ _ _ _ j M with h|h
    .exact .inl<|aR.ak _ _ p j h
    .exact .inl<|rI j h
   .simp at f
 .intro j z' f;simp only[aE,reduceCtorEq,bN]at f;split at f
  .rename_i e';simp only[Key.m.injEq]at e';subst e';exact .inl<|aR.ew _ _ p
  .simp at f
def sZ(a:St):V eI->ax (V<|Bool×V C)
 |[]=>ad []
 |x::xs=>(match a.ev x with
  |some v=>(match rB v,sZ a xs with
   |some s,ad d=>ad<|s::d
   |_,_=>none)
  |none=>none)
def Lq{v}{s}(d:rB v=ad s):bV s.2=v.ak:=by
 cases v with
 |c x=>simp only[rB,ar]at d;subst d;simp[bV,AV.ak]
 |a cs=>simp only[rB,ar]at d;subst d;rfl
 |t _=>simp[rB]at d
def QY{B:fj}{f:Y->Prop}{u:Kn}{g:Gh}{W:cQ}{a:Act}(m:bx B f u g W a)(i:St):∀(xs:V eI)(k:V (Bool×V C)),sZ i xs=ad k->
  (∀kx∈xs.flatMap (cJ i),u kx.1=ad kx.2)->fJ g k (xs.map a.eval)/\∀l∈eW k,f l
 |[],k,he,_=>by simp only[sZ,ar]at he;subst he;exact⟨J,by simp[eW]⟩
 |x::xs,k,he,n=>by
  simp only[sZ]at he;split at he
  .rename_i v y;split at he
   .rename_i s H A o;simp only[ar]at he;subst he;have L:=dA m i x v y<|λkx b7=>n kx ef;have p:=sM m i x v y<|λkx b7=>n kx ef;let ⟨h2,t⟩:=QY m i xs H o (λkx b7=>n kx<|by simp only[lG,bg];exact .inr b7);refine⟨⟨_,_,J,QD A L,h2⟩,?_⟩;intro l d;simp only[eW,bg]at d;rcases d with d|d
    .rw[Lq A]at d;exact p l d
    .exact t l d
   .simp at he
  .simp at he
def X6{ops}{i}{o:a4}{d:Y}(ho:ops[i]? =ad o)(hg:o.guard=none)(hd:o.dst=ad d){n}(dz:d<n){f}{first p}(b6:o.op= .makeFunc (.func f) first p)
 {st}{fs cs}(hf:sZ st first.toList=ad fs) (hc:sZ st p.toList=ad cs) new:
  iA P n ops i ((first.toList++p.toList).flatMap<|cJ st) [(.s d,ad<|.v<|.c<|.X new),(.m new,ad<|.b<|.hY f fs cs)] new:=by
 intro F kO Q M S g W a K L aR q N
 let ⟨D,r⟩:=QY aR st _ _ hf (λkx T=>q kx<|by rw[D5];exact eH _ T)
 let ⟨E,w⟩:=QY aR st _ _ hc (λkx T=>q kx<|by rw[D5];exact gD _ T)
 have G:(execOp a.eval o).run P W= .ok (.value<|.func (.func f) (first.toList.map a.eval).toArray (p.toList.map a.eval).toArray) W:=by rw[execOp,b6];have O:first.map a.eval=(first.toList.map a.eval).toArray:=A6;have R:p.map a.eval=(p.toList.map a.eval).toArray:=A6;simp only[Instr.makeFunc,O,R];rfl
 unfold wpOp
 simp only[ho,gV,hg,cj]
 refine .inl ?_
 unfold nK
 rw[G]
 simp only[nL,hd]
 have z:d<a.tmps.size:=mD
 let v:aV:= .func (.func f) (first.toList.map a.eval).toArray (p.toList.map a.eval).toArray
 let U:Gh:=⟨g.H,λB=>if B=new then v else g.γ B⟩
 have j:U.γ new=v:=by simp[U]
 have A:gC M g U:=⟨cL.refl _,λB x=>by
  have:B≠new:=λe=>L<|e▸x
  simp[U,this]⟩
 refine N U _ _<|aR.step (chg:=λ_=>False) (g':=U) ⟨A,λ_ _ _=>rfl,aR.sub,aO _,λ_ _ _=>rfl,J,J,J⟩ _ new L mE aR.defers (λt l=>Hj l) (λ_ h=>h.elim) ?_ ?_ ?_ ?_
 .intro t u l;simp only[aE]at l;split at l
  .rename_i e;simp only[Key.s.injEq]at e;simp only[ar,Info.v.injEq]at l;subst e;subst l;show _=U.γ new;rw[j];simp[im,z,v]
  .simp at l
 .intro B b l;simp only[aE,reduceCtorEq,bN]at l;split at l
  .rename_i e;simp only[Key.m.injEq]at e;subst e;simp only[ar,Info.b.injEq]at l;subst l;refine⟨⟨_,_,j,fJ.mono A r D,fJ.mono A w E⟩,.inr ⟨J,λk I=>?_⟩⟩;rw[j]at I;simp[cE,v]at I
  .simp at l
 .intro k y l;simp only[aE]at l;split at l
  .simp only[ar]at l;subst l;intro B x;simp[Info.ak,AV.ak,C.ak]at x;exact .inr x
  .split at l
   .simp only[ar]at l;subst l;intro B x;rcases bg.1 x with h|h
    .exact .inl<|r B h
    .exact .inl<|w B h
   .simp at l
 .intro B y l;simp only[aE,reduceCtorEq,bN]at l;split at l
  .rename_i e;simp only[Key.m.injEq]at e;exact .inr e.symm
  .simp at l
end
def nl(a:V aV):Act:={tmps:=a.toArray,defers:=[]}
structure CX(P:bW)(f:FuncId)(vs:V AV)(fm:V (Y×aG))(k:Y)(r:AV)(a:V (Y×aG))(l:Y):Prop where
 call:oW P f=ae
 le:k<=l
 spec:∀(d:fj)(g:Gh)(W:cQ)(i:V aV),d.n=vs.length->i.length=vs.length->bx d (·<k) (St.kn ⟨dG 0 vs,fm,0,[]⟩) g W (nl i)->
  Calls P f i.toArray W (λe m=>∃v o,e= .returned v/\bx {d with n:=1} (·<l) (St.kn ⟨[(0,r)],a,0,[]⟩) o m (nl [v]))
def o0(a:V (Y×aG)):V (Y×aG)->V (Key×ax Info)
 |[]=>[]
 | (id,_)::d=>(.m id,(S id a).map .b)::o0 a d
def kY(k:Y):V (Y×aG)->V (Key×ax Info)
 |[]=>[]
 | (id,d)::a=>if k<=id then(.m id,ad<|.b d)::kY k a else kY k a
def ug{u v:V (Key×ax Info)}{k:Key}:aE (u++v) k=match aE u k with|some x=>ad x|none=>aE v k:=by
 induction u with
 |nil=>rfl
 |cons p u a=>
  let ⟨d,x⟩:=p
  simp only[m7,aE]
  split
  .rfl
  .exact a
def D6(a:V (Y×aG))(t:Y):∀fm,aE (o0 a fm) (.s t)=none
 |[]=>rfl
 | (id,f)::d=>by simp[o0,aE,D6 a t d]
def yS(k:Y)(t:Y):∀fm,aE (kY k fm) (.s t)=none
 |[]=>rfl
 | (id,d)::a=>by
  simp only[kY];split
  .simp[aE,yS k t a]
  .exact yS k t a
def Hk(a:V (Y×aG))(d:Y):∀fm:V (Y×aG),aE (o0 a fm) (.m d)=if(S d fm).isSome then ad ((S d a).map .b)else none
 |[]=>rfl
 | (id,i)::g=>by
  simp only[o0,aE,S,Key.m.injEq];by_cases f:id=d
  .simp[f]
  .simp only[f,bN];exact Hk a d g
def yT(k a:Y):∀fm:V (Y×aG),aE (kY k fm) (.m a)=if k<=a then(S a fm).map (λi=>ad<|.b i)else none
 |[]=>by simp[kY,aE,S]
 | (id,i)::g=>by
  simp only[kY,S];by_cases f:k<=id
  .simp only[f,cj,aE,Key.m.injEq];by_cases d:id=a
   .subst d;simp[f]
   .simp only[d,bN];exact yT k a g
  .simp only[f,bN];by_cases d:id=a
   .subst d;rw[yT k id g];simp[f]
   .simp only[d,bN];exact yT k a g
def yU(k:Y)(fm:V (Y×aG)):V Y->Bool
 |[]=>ae
 |id::a=>(dP k id||(S id fm).isSome)&&yU k fm a
def yV(k:Y)(fm:V (Y×aG)):V (Y×aG)->Bool
 |[]=>ae
 | (id,a)::d=>(dP k id||(S id fm).isSome)&&yU k fm a.ak&&yV k fm d
def QZ{k:Y}{fm:V (Y×aG)}:∀{l:V Y},yU k fm l=ae->∀d∈l,k<=d\/∃i,S d fm=ad i
 |[],_,_,a=>by cases a
 |m::n,f,d,a=>by
  simp only[yU,cz,vE]at f;rcases b9.1 a with rfl|a
  .rcases f.1 with g|g
   .exact .inl<|c8 g
   .exact .inr<|Hl.1 g
  .exact QZ f.2 d a
def Q1{k:Y}{fm:V (Y×aG)}:∀{l:V (Y×aG)},yV k fm l=ae->∀f a,S f l=ad a->(k<=f\/∃a,S f fm=ad a)/\∀i∈a.ak,k<=i\/∃a,S i fm=ad a
 |[],_,_,_,d=>by simp[S]at d
 | (i,x)::o,g,f,a,d=>by
  simp only[yV,cz,vE]at g;simp only[S]at d;split at d
  .rename_i n;subst n;cases d;refine⟨?_,QZ g.1.2⟩;rcases g.1.1 with m|m
   .exact .inl<|c8 m
   .exact .inr<|Hl.1 m
  .exact Q1 g.2 f a d
def fV.yW{M L:Y->Prop}{g v}{W}{s}{a}(l:fV M g W s a)(t:∀k,cE (g.γ s)=ad k->L k)(hγ:v.γ s=g.γ s)(hH:v.H=g.H)(o:gC (λp=>p∈a.ak) g v):fV L v W s a:=by
 cases a with
 |box E sz cs=>
  let ⟨a,vs,rest,e,d,u,x,hz,hc⟩:=l
  exact⟨a,vs,rest,qv,d,aW.mono o (λp i=>i) u,t a e,Hm,by rw[hγ];exact hc⟩
 |vec E T xs=>
  rcases l with⟨e,K⟩|⟨a,y,vs,e,d,A,B,P,Q,x,hz⟩
  .exact .inl ⟨qv,K⟩
  .exact .inr ⟨a,y,vs,qv,d,A,B,P,by rw[hH];exact Q,t a sJ,Hm⟩
 |hY f first C=>
  let ⟨us,ws,e,A,B⟩:=l
  exact⟨us,ws,qv,fJ.mono o (λp i=>eH _ i) A,fJ.mono o (λp i=>gD _ i) B⟩
 |fz E cs=>
  let ⟨a,vs,rest,e,d,u,x,hz⟩:=l
  exact⟨a,vs,rest,qv,d,aW.mono o (λp i=>i) u,t a e,Hm⟩
 |mp X c xs=>
  let ⟨r,es,e,d,u,x,hz⟩:=l
  exact⟨r,es,qv,d,iy.mono o (λp i=>i) u,t r sJ,Hm⟩
 |it m n seen=>
  let ⟨r,a,e,U,d,x,hz⟩:=l
  exact⟨r,a,qv,by rw[o.γ m (by simp[aG.ak])];exact U,d,t r sJ,Hm⟩
def fV.xl{known:Y->Prop}{U:Y->Prop}{g L}{W W'}{t}{a}(x:fV U g W t a)(u:gC known g L)(M:known t)(y:∀A∈a.ak,known A)
  (l:∀k,cE (g.γ t)=ad k->W'.heap[k]? =W.heap[k]? /\∀o,L.H k o=g.H k o):fV U L W' t a:=by
 have hγ:=u.γ t M
 cases a with
 |box E sz cs=>
  let ⟨a,vs,rest,e,d,B,p,s,hc⟩:=x
  exact⟨a,vs,rest,qv,by rw[(l a e).1];exact d,aW.mono u y B,p,λo=>by rw[(l a e).2];exact s o,by rw[hγ];exact hc⟩
 |vec E T xs=>
  rcases x with⟨e,C⟩|⟨a,K,vs,e,C,d,P,c,q,p,s⟩
  .exact .inl ⟨qv,C⟩
  .have v:cE (g.γ t)=ad a:=by rw[e];rfl
   exact .inr ⟨a,K,vs,qv,by rw[(l a v).1];exact C,d,P,c,λi w=>cZ.mono u.H T _ _<|q i w,p,λo=>by rw[(l a v).2];exact s o⟩
 |hY f first X=>
  let ⟨us,ws,e,d,P⟩:=x
  exact⟨us,ws,qv,fJ.mono u (λA Q=>y A<|eH _ Q) d,fJ.mono u (λA Q=>y A<|gD _ Q) P⟩
 |fz E cs=>
  let ⟨a,vs,rest,e,d,B,p,s⟩:=x
  exact⟨a,vs,rest,qv,by rw[(l a e).1];exact d,aW.mono u y B,p,λo=>by rw[(l a e).2];exact s o⟩
 |mp D F xs=>
  let ⟨r,es,e,d,B,p,s⟩:=x
  have v:cE (g.γ t)=ad r:=sJ
  exact⟨r,es,qv,by rw[(l r v).1];exact d,iy.mono u y B,p,λo=>by rw[(l r v).2];exact s o⟩
 |it m n seen=>
  let ⟨r,a,e,z,d,p,s⟩:=x
  have v:cE (g.γ t)=ad r:=sJ
  exact⟨r,a,qv,by rw[u.γ m (y m<|by simp[aG.ak])];exact z,by rw[(l r v).1];exact d,p,λo=>by rw[(l r v).2];exact s o⟩
section
variable{P:bW}{tt:TT}
def X7{k:St}{s:fj}{f:Y->Prop}{n:Kn}{g:Gh}{W:cQ}{a:Act}(o:bx s f n g W a):∀(xs:V eI)(vs:V AV),jU k xs=ad vs->(∀kx∈xs.flatMap (cJ k),n kx.1=ad kx.2)->∀i∈cR vs,f i
 |[],vs,he,_,i,d=>by simp only[jU,ar]at he;subst he;cases d
 |x::xs,vs,he,p,i,d=>by
  simp only[jU]at he;split at he
  .rename_i v l t m;simp only[ar]at he;subst he;simp only[cR,bg]at d;rcases d with d|d
   .exact sM o k x v t (λkx b7=>p kx ef) i d
   .exact X7 o xs l m (λkx b7=>p kx<|by simp only[lG,bg];exact .inr b7) i d
  .simp at he
def X8{f}{vs}{fm T}{k k'}{bf}(hf:CX P f vs fm k bf T k')(Q2:∀l∈cR vs,l<k)(nk:∀l A,S l fm=ad A->l<k/\∀B∈A.ak,B<k)(Q3:∀l∈bf.ak,k<=l\/∃A,S l fm=ad A)
  (Hn:∀l A,S l T=ad A->S l fm=ad A\/∀B∈A.ak,k<=B\/∃A,S B fm=ad A)
 {Fc}{Q:Y->Prop} {σ}{g}{W}{a}(p:bx Fc Q σ g W a) (wU:∀l,(k<=l/\l<k')->¬Q l) {us}(Lr:fw g vs us) (X9:∀l∈cR vs,Q l)
  (gN:∀l A,S l fm=ad A->σ (.m l)=ad (.b A)) {d}(hd:d<a.tmps.size):
  Calls P f us.toArray W (λdN W'=>∃v g',dN= .returned v/\bx Fc (λl=>Q l\/(k<=l/\l<k')) (bs σ<|(.s d,ad<|.v bf)::(o0 T fm++kY k T)) g' W' (a.put (ad d) v)):=by
 have mc:=yJ Lr
 let F:fj:={w0:=W,H0:=g.H,n:=Z vs,own:=λA=>∃l bb,S l fm=ad bb/\cE (g.γ l)=ad A,k0:=k,γ0:=g.γ}
 have hN:∀A,F.N A->A<W.heap.size->Fc.N A:=by
  intro A L hZ;rcases L with L|⟨l,bb,U,h2⟩
  .exact absurd L (O:¬W.heap.size<=A)
  .exact((p.cX l bb<|gN l bb U).block h2).1
 have Q4:∀A,F.N A->Fc.N A:=by
  intro A L;rcases L with L|⟨l,bb,U,h2⟩
  .exact .inl<|bm p.below.size L
  .exact((p.cX l bb<|gN l bb U).block h2).1
 have h0:bx F (·<k) (St.kn ⟨dG 0 vs,fm,0,[]⟩) g W (nl us):=by
  refine⟨by simp[nl,F,mc],J,?_,?_,?_,?_,?_,p.sub,⟨J,J,J,aO _,λ_ _ _=>rfl⟩,cL.refl _,λ_ _ _ _=>rfl,λl C=>⟨C,J⟩⟩
  .intro t v ht;simp only[St.kn,cG]at ht;let ⟨x,hx,he⟩:=ht;cases he;let ⟨_,u,hu,hr,_⟩:=nP vs us 0 Lr t v hx;have wR:us[t]? =ad u:=w8;simp only[nl,nM,vr,wR,rh];exact hr
  .intro l A L;simp only[St.kn,cG]at L;let ⟨x,hx,he⟩:=L;cases he;exact(p.cX l A<|gN l A hx).yW (λK lK=> .inr ⟨l,A,hx,lK⟩) J J ⟨cL.refl _,λ_ _=>rfl⟩
  .intro l rH A b' K L l6 U h2;simp only[St.kn,cG]at L l6;let ⟨x,hx,he⟩:=L;let ⟨x',Ho,Hp⟩:=l6;cases he;cases Hp;exact p.inj l rH A b' K (gN l A hx) (gN rH b' Ho) U h2
  .intro key x hx l C;cases key with
   |s t=>
    simp only[St.kn,cG]at hx
    let ⟨y,hy,he⟩:=hx
    subst he
    let ⟨_,_,_,_,h6⟩:=nP vs us 0 Lr t y hy
    exact Q2 l<|h6 l C
   |m B=>
    simp only[St.kn,cG]at hx
    let ⟨y,hy,he⟩:=hx
    subst he
    exact(nk B y hy).2 l C
  .intro l x hx;simp only[St.kn,cG]at hx;let ⟨y,hy,he⟩:=hx;exact(nk l y hy).1
 refine(hf.spec F g W us J mc h0).mono ?_
 rintro dN W' ⟨v,g',rfl,U⟩
 refine⟨v,⟨g'.H,λl=>if k<=l/\l<k' then g'.γ l else g.γ l⟩,J,?_⟩
 generalize X':(⟨g'.H,λl=>if k<=l/\l<k' then g'.γ l else g.γ l⟩:Gh)=g2
 have V:g2.H=g'.H:=by rw[<-X']
 have Ya:∀l,g2.γ l=if k<=l/\l<k' then g'.γ l else g.γ l:=by rw[<-X'];intro l;rfl
 have z:∀l,l<k'->g2.γ l=g'.γ l:=by
  intro l C;rw[Ya];split
  .rfl
  .rename_i hn;exact(U.gK l (O:l<k)).2.symm
 have Q5:gC (·<k') g' g2:=⟨by rw[V];exact cL.refl _,λl C=>z l C⟩
 have M:gC Q g g2:=⟨by rw[V];exact U.le,λl C=>by rw[Ya,w];intro hc;exact wU l hc C⟩
 have Yb:∀l A,S l fm=ad A->Q l:=λl A L=>p.ew _ _<|gN l A L
 have Ls:∀l,(k<=l\/∃A,S l fm=ad A)->l<k'->Q l\/(k<=l/\l<k'):=by
  intro l h h2;rcases h with h|⟨A,L⟩
  .exact .inr ⟨h,h2⟩
  .exact .inl<|Yb l A L
 have Yc:∀l∈bf.ak,l<k':=λl C=>U.ak (.s 0) (.v bf) (by simp[St.kn,S]) l C
 have c:∀K,K<W.heap.size->¬F.own K->W'.heap[K]? =W.heap[K]? /\∀o,g'.H K o=g.H K o:=λK G q=>⟨U.below.block K G q,λo=>U.fresh K o G q⟩
 have Q6:∀B,aE ((.s d,ad<|.v bf)::(o0 T fm++kY k T)) (.m B)=if(S B fm).isSome then ad ((S B T).map .b)else if k<=B then(S B T).map (λA=>ad<|.b A)else none:=by
  intro B;simp only[aE,reduceCtorEq,bN,ug,Hk,yT];by_cases h:(S B fm).isSome=ae
  .simp[h]
  .simp[h]
 have D:∀B A,bs σ ((.s d,ad<|.v bf)::(o0 T fm++kY k T)) (.m B)=ad (.b A)->(S B T=ad A/\B<k')\/(S B fm=none/\σ (.m B)=ad (.b A)/\Q B):=by
  intro B A L;simp only[bs,Q6]at L;by_cases h:(S B fm).isSome=ae
  .simp only[h,cj,cG]at L;let ⟨x,hx,he⟩:=L;cases he;exact .inl ⟨hx,U.ew B (.b A)<|by simp[St.kn,hx]⟩
  .have q:S B fm=none:=by simpa using h
   simp only[h,bN,iB]at L;by_cases G:k<=B
   .simp only[G,cj]at L;cases hx:S B T with
    |none=>
     rw[hx]at L
     simp only[Option.map_none]at L
     exact .inr ⟨q,L,p.ew _ _ L⟩
    |some x=>
     rw[hx]at L
     simp only[vG,ar,Info.b.injEq]at L
     subst L
     exact .inl ⟨J,U.ew B (.b x)<|by simp[St.kn,hx]⟩
   .simp only[G,bN]at L;exact .inr ⟨q,L,p.ew _ _ L⟩
 have X:∀B A K,S B fm=none->σ (.m B)=ad (.b A)->cE (g.γ B)=ad K->K<W.heap.size/\¬F.own K:=by intro B A K h2 E h4;refine⟨((p.cX B A E).block h4).2,?_⟩;rintro⟨l,bb,h5,h6⟩;have:=p.inj B l A bb K E (gN l bb h5) h4 h6;subst this;rw[h2]at h5;cases h5
 refine⟨by simp[im,p.size],p.defers,?_,?_,?_,?_,?_,by rw[V];exact U.sub,?_,by rw[V];exact p.le.trans U.le,?_,?_⟩
 .intro t u ht;simp only[bs,aE,ug,D6,yS]at ht;by_cases dN:d=t
  .subst dN;simp only[cj,ar,Info.v.injEq]at ht;subst ht;have hr:=U.eY 0 bf (by simp[St.kn,S]);have hv:(a.put (ad d) v).tmps.getD d undef=v:=by simp[im,hd]
   rw[hv];exact bu.mono Q5 Yc (by simpa[nl]using hr)
  .have e':¬(Key.s d=Key.s t):=λh=>dN et
   simp only[e',bN]at ht;have hv:(a.put (ad d) v).tmps.getD t undef=a.tmps.getD t undef:=by simp[im,lE dN]
   rw[hv];exact bu.mono M (λl C=>p.ak _ _ ht l C)<|p.eY t u ht
 .intro B A L;rcases D B A L with⟨h2,E⟩|⟨h2,E,h4⟩
  .have yX:=U.cX B A Hq;exact yX.yW (λK lK=>Q4 K (yX.block lK).1) (z B E) V ⟨Q5.H,λi hi=>Q5.γ i<|U.ak (.m B) (.b A) Hq i hi⟩
  .refine(p.cX B A E).xl M h4 (λi hi=>p.ak _ _ E i hi)<|λK lK=>?_;let ⟨h5,h6⟩:=X B A K h2 E lK;rw[V];exact c K h5 h6
 .intro B j' A b' K L l6 I R;rcases D B A L with⟨h2,E⟩|⟨h2,E,h4⟩<;>rcases D j' b' l6 with⟨D7,Bl⟩|⟨D7,Bl,Kf⟩
  .rw[z B E]at I;rw[z j' Bl]at R;exact U.inj B j' A b' K Hq (by simp[St.kn,D7]) I R
  .exfalso;rw[z B E]at I;rw[M.γ j' Kf]at R;let ⟨h5,h6⟩:=X j' b' K D7 Bl R;rcases((U.cX B A Hq).block I).1 with h7|h7
   .exact absurd h7 (O:¬W.heap.size<=K)
   .exact h6 h7
  .exfalso;rw[z j' Bl]at R;rw[M.γ B h4]at I;let ⟨h5,h6⟩:=X B A K h2 E I;rcases((U.cX j' b'<|by simp[St.kn,D7]).block R).1 with h7|h7
   .exact absurd h7 (O:¬W.heap.size<=K)
   .exact h6 h7
  .rw[M.γ B h4]at I;rw[M.γ j' Kf]at R;exact p.inj B j' A b' K E Bl I R
 .intro key x hx l C;cases key with
  |s t=>
   simp only[bs,aE,ug,D6,yS]at hx
   by_cases dN:d=t
   .subst dN;simp only[cj,ar]at hx;subst hx;exact Ls l (Q3 l C)<|Yc l C
   .have e':¬(Key.s d=Key.s t):=λh=>dN et
    simp only[e',bN]at hx;exact .inl<|p.ak _ _ hx l C
  |m B=>
   cases x with
   |v u=>
    simp only[bs,Q6]at hx
    by_cases h:(S B fm).isSome=ae
    .simp only[h,cj,cG]at hx;let ⟨_,_,he⟩:=hx;cases he
    .simp only[h,bN,iB]at hx;by_cases G:k<=B
     .simp only[G,cj]at hx;cases hy:S B T with
      |none=>rw[hy]at hx;exact .inl<|p.ak (.m B) (.v u) D8 l C
      |some y=>rw[hy]at hx;simp at hx
     .simp only[G,bN]at hx;exact .inl<|p.ak _ _ hx l C
   |b A=>
    rcases D B A hx with⟨h2,E⟩|⟨h2,E,h4⟩
    .rcases Hn B A h2 with h7|h7
     .exact .inl<|p.ak _ _ (gN B A h7) l C
     .exact Ls l (h7 l C)<|U.ak (.m B) (.b A) Hq l C
    .exact .inl<|p.ak _ _ E l C
 .intro B x hx;simp only[bs,Q6]at hx;by_cases h:(S B fm).isSome=ae
  .let ⟨A,L⟩:=Hl.1 h;exact .inl<|Yb B A L
  .simp only[h,bN,iB]at hx;by_cases G:k<=B
   .simp only[G,cj]at hx;cases hy:S B T with
    |none=>rw[hy]at hx;exact .inl<|p.ew _ _ D8
    |some y=>exact .inr ⟨G,U.ew B (.b y)<|by simp[St.kn,hy]⟩
   .simp only[G,bN]at hx;exact .inl<|p.ew _ _ hx
 .refine⟨U.below.os.trans p.below.os,U.below.tape.trans p.below.tape,U.below.output.trans p.below.output,bm p.below.size U.below.size,λK G q=>?_⟩;have hZ:K<W.heap.size:=iI G p.below.size;rw[<-p.below.block K G q];refine(c K hZ<|λho=>?_).1;rcases hN K (.inr ho) hZ with h2|h2
  .omega
  .exact q h2
 .intro K o G q;have hZ:K<W.heap.size:=iI G p.below.size;rw[V,(c K hZ<|λho=>?_).2 o]
  .exact p.fresh K o G q
  .rcases hN K (.inr ho) hZ with h2|h2
   .omega
   .exact q h2
 .intro l C;let ⟨h2,E⟩:=p.gK l C;exact⟨.inl h2,by rw[M.γ l h2];exact E⟩
def ajO{f}{vs}{fm n}{k u}{x}(hf:CX P f vs fm k x n u)(y:w7 k (cR vs)=ae)(A:vF k fm=ae)(B:yU k fm x.ak=ae)(H:yV k fm n=ae)
 {U}{i:Y->Prop} {L}{g}{W}{a}(p:bx U i L g W a) (t:∀l,(k<=l/\l<u)->¬i l) {us}(M:fw g vs us) (Q:∀l∈cR vs,i l)
  (T:∀l o,S l fm=ad o->L (.m l)=ad (.b o)) {d}(hd:d<a.tmps.size):
  Calls P f us.toArray W (λdN W'=>∃v g',dN= .returned v/\bx U (λl=>i l\/(k<=l/\l<u)) (bs L<|(.s d,ad<|.v x)::(o0 n fm++kY k n)) g' W' (a.put (ad d) v)):=
 X8 hf (KV y) (λl o h=>KW A l o h) (QZ B) (λl o h=> .inr (Q1 H l o h).2) p t M Q T hd
end
def Hr:Bool×V C->ax AV
 | (ae,cs)=>ad<|.a cs
 | (false,[d])=>ad<|.c d
 |_=>none
def s0:V (Bool×V C)->ax (V AV)
 |[]=>ad []
 |s::a=>(match Hr s,s0 a with
  |some v,ad vs=>ad<|v::vs
  |_,_=>none)
def vM(d:St)(g:eI)(args:V eI):ax (FuncId×V AV×V Y):=match jU d args with
 |some vs=>(match d.ev g with
  |some (.c<|.V<|.func (.func f) ⟨[]⟩ ⟨[]⟩)=>ad (f,vs,[])
  |some (.c<|.X id)=>(match S id d.mem with
   |some (.hY f first a)=>(match s0 first,s0 a with
    |some us,ad ws=>ad (f,us++(vs++ws),[id])
    |_,_=>none)
   |_=>none)
  |_=>none)
 |none=>none
def Lt{g:Gh}:∀{m:V (Bool×V C)}{vs:V AV}{i:V aV},s0 m=ad vs->fJ g m i->fw g vs i
 |[],vs,i,a,k=>by simp only[s0,ar]at a;subst a;exact k
 |s::t,vs,i,a,k=>by
  simp only[s0]at a;split at a
  .rename_i v n d o;simp only[ar]at a;subst a;obtain⟨u,l,rfl,f,p⟩:=k;refine⟨u,l,J,?_,Lt o p⟩;match s,d,f with
   | (ae,cs),d,f=>simp only[Hr,ar]at d;subst d;exact f
   | (false,[c]),d,f=>simp only[Hr,ar]at d;subst d;exact f
  .simp at a
def D9:∀{i:V (Bool×V C)}{vs:V AV},s0 i=ad vs->∀g∈cR vs,g∈eW i
 |[],vs,d,g,a=>by simp only[s0,ar]at d;subst d;cases a
 |s::m,vs,d,g,a=>by
  simp only[s0]at d;split at d
  .rename_i v k f l;simp only[ar]at d;subst d;simp only[cR,bg]at a;simp only[eW,bg];rcases a with a|a
   .left;match s,f with
    | (ae,cs),f=>simp only[Hr,ar]at f;subst f;exact a
    | (false,[n]),f=>simp only[Hr,ar]at f;subst f;simpa[bV,AV.ak]using a
   .exact .inr<|D9 l g a
  .simp at d
def fw.append{g:Gh}:∀{xs d:V AV}{f i:V aV},fw g xs f->fw g d i->fw g (xs++d) (f++i)
 |[],_,_,_,a,h2=>by simp only[fw]at a;subst a;exact h2
 |x::xs,_,_,_,a,h2=>by obtain⟨u,k,rfl,l,m⟩:=a;exact⟨u,k++_,J,l,fw.append m h2⟩
def Lu xs a:cR (xs++a)=cR xs++cR a:=by
 induction xs with
 |nil=>rfl
 |cons x xs d=>simp[cR,d]
section
variable{P:bW}{tt:TT}
def Q7{f}{i d}{W}(a:oW P f=ae):(invoke (.fn (.func f) d) i).run P W= .ok (.enter f<|i++d) W:=by
 unfold oW at a;cases g:P.funcs[f]? with
 |none=>rw[g]at a;simp at a
 |some fn=>
  rw[g]at a
  simp only[cz,bne_iff_ne,ne_eq]at a
  have k:fn.body≠none:=by intro l;rw[l]at a;simp at a
  simp[invoke,callFunc,g,a.1,k]
def Yd{iz}{k:Y->Prop}{L}{g}{W}{a}(d:bx iz k L g W a){n}{o}{s}{args}{M}(x:o.op= .call ⟨.value s,args,M⟩){f}{vs}{y}(i:vM n s args.toList=ad (f,vs,y))(A:oW P f=ae)
  (l:∀kx∈cJ n s++args.toList.flatMap (cJ n)++fL n y,L kx.1=ad kx.2):∃Q:V aV,(execOp a.eval o).run P W= .ok (.enter f Q.toArray) W/\fw g vs Q/\∀v∈cR vs,k v:=by
 unfold vM at i
 split at i
 .rename_i q B;have c:=DO d n _ _ B (λkx b7=>l kx<|by simp only[bg];exact .inl<|.inr b7);have C:=X7 d _ _ B (λkx b7=>l kx<|by simp only[bg];exact .inl<|.inr b7);have m:args.map a.eval=(args.toList.map a.eval).toArray:=A6;split at i
  .rename_i e t;simp only[ar,bM]at i;obtain⟨rfl,rfl,rfl⟩:=i;have T:a.eval s= .func (.func e) #[] #[]:=dA d n s _ t (λkx b7=>l kx<|by simp only[bg];exact .inl<|.inl b7);refine⟨args.toList.map a.eval,?_,c,C⟩;rw[execOp,x];simp only[resolve,T,Hs,pure_bind,Q7 A,m];simp
  .rename_i v t;split at i
   .rename_i e first h r
    split at i
    .rename_i Q D H K;simp only[ar,bM]at i;obtain⟨rfl,rfl,rfl⟩:=i;have T:a.eval s=g.γ v:=dA d n s _ t (λkx b7=>l kx<|by simp only[bg];exact .inl<|.inl b7);have u:=xi (st:=n) (ids:=[v]) (σ:=L) (λkx b7=>l kx Lo) v az _ r;let ⟨w,z,U,X,b⟩:=d.cX v _ u;refine⟨w++(args.toList.map a.eval++z),?_,(Lt H X).append<|c.append<|Lt K b,?_⟩
     .rw[execOp,x];simp only[resolve,T,U,Hs,pure_bind,Q7 A,m];simp
     .intro j p;rw[Lu,Lu,bg,bg]at p;rcases p with p|p|p
      .exact d.ak _ _ u j<|eH _<|D9 H j p
      .exact C j p
      .exact d.ak _ _ u j<|gD _<|D9 K j p
    .simp at i
   .simp at i
  .simp at i
 .simp at i
def Ye{B}{i}{o:a4}{d:Y}(ho:B[i]? =ad o)(hg:o.guard=none)(hd:o.dst=ad d){n}(dz:d<n){cf}{args}{kV}(b6:o.op= .call ⟨.value cf,args,kV⟩)
 {y}{f}{vs:V AV} {H:V Y} (ht:vM y cf args.toList=ad (f,vs,H)) {fm t:V (Y×aG)} {k k':Y} {bf:AV} (hf:CX P f vs fm k bf t k') (Q2:w7 k (cR vs)=ae) (nk:vF k fm=ae) (Q3:yU k fm bf.ak=ae) (Hn:yV k fm t=ae)
  (Q8:∀m u,S m fm=ad u->S m y.mem=ad u):
  vo P n B i (cJ y cf++args.toList.flatMap (cJ y)++fL y H++fL y (fm.map (·.1))) ((.s d,ad<|.v bf)::(o0 t fm++kY k t)) (λm=>k<=m/\m<k'):=by
 intro F kO Q X z g W a K C aR L D
 let ⟨us,hex,M,c⟩:=Yd aR b6 ht hf.call<|λkx A=>L kx<|eH _ A
 have T:=xi (st:=y) (ids:=fm.map (·.1)) (σ:=z)<|λkx A=>L kx<|gD _ A
 have q:∀{l:V (Y×aG)}{m:Y}{u:aG},S m l=ad u->m∈l.map (·.1):=by
  intro l;induction l with
  |nil=>intro m u h;simp[S]at h
  |cons p l E=>
   let ⟨j,x⟩:=p
   intro m u h
   simp only[S]at h
   split at h
   .rename_i e;simp[e]
   .exact ko _<|E h
 have U:d<a.tmps.size:=mD
 have G:=ajO hf Q2 nk Q3 Hn aR C M c (λm u w=>T m (q w) u<|Q8 m u w) U
 unfold wpOp
 simp only[ho,gV,hg,cj]
 refine .inl ?_
 unfold nK
 rw[hex]
 simp only[nL,hd]
 refine G.mono ?_
 rintro e I ⟨v,J,rfl,N⟩
 exact D J I _ N
def ajP{f}{vs}{bf}(p:r P f vs bf)(hm:cR vs=[]) fm k:CX P f vs fm k bf fm k:=by
 refine⟨p.call,aO _,?_⟩;intro F g W d hn N a;have q:fw g vs d:=by
  have L:∀(vs:V AV)(d:V aV)(i:Y)(all:V aV),Z d=Z vs->(∀j,j<Z d->all[i+j]? =d[j]?)->(∀t v,S t (dG i vs)=ad v->bu g v (all.toArray.getD t undef))->fw g vs d:=by
   intro vs;induction vs with
   |nil=>intro d i all hl _ _;exact eT vw
   |cons x vs ih=>
    intro d i all hl C G
    cases d with
    |nil=>simp at hl
    |cons u d=>
     refine⟨u,d,J,?_,ih d (i+1) all vw ?_ ?_⟩
     .have R:=G i x (by simp[dG,S]);have I:=C 0 az;simp only[jy,m9]at I;simpa[I]using R
     .intro j hj;have:=C (j+1) ot;rw[(O:i+1+j=i+(j+1))];simpa using this
     .intro t v M;refine G t v ?_;have gM:∀(l:V AV)(w:Y),i<w->∀v,S i (dG w l)=ad v->False:=by
       intro l;induction l with
       |nil=>intro w _ v p;simp[dG,S]at p
       |cons y l ihl=>
        intro w Q v p
        simp only[dG,S]at p
        split at p
        .omega
        .exact ihl (w+1) O v p
      simp only[dG,S];split
      .rename_i e;subst e;exact(gM vs (i+1) O v M).elim
      .exact M
  exact L vs d 0 d N (λj hj=>az) (λt v M=>a.eY t v<|by simp[St.kn,M])
 refine(p.spec g.H W d a.sub<|q.iL hm).mono ?_;rintro e W' ⟨v,H',rfl,G,hle,z,D,n⟩;refine⟨v,⟨H',g.γ⟩,J,⟨J,a.defers,?_,?_,?_,?_,?_,D,?_,a.le.trans hle,?_,a.gK⟩⟩
 .intro t u M;simp only[St.kn,S,cG]at M;let ⟨x,B,he⟩:=M;cases he;split at B
  .rename_i e;subst e;cases B;have:=G.iL p.iL (cL.refl _) g.γ;simpa[nl]using this
  .cases B
 .intro A b c;have T:St.kn ⟨dG 0 vs,fm,0,[]⟩ (.m A)=ad (.b b):=c;have K:=a.cX A b T;refine K.xl (known:=(·<k)) ⟨hle,λ_ _=>rfl⟩ (a.ew A _ T) (λj hj=>a.ak _ _ T j hj)<|λU lK=>?_;have Q:=(K.block lK).2;exact⟨n.block U Q,λo=>z U o Q⟩
 .intro A rH b b' U c l6 R I;exact a.inj A rH b b' U c l6 R I
 .intro L x B A E;cases L with
  |m j=>exact a.ak (.m j) x B A E
  |s t=>
   simp only[St.kn,S,cG]at B
   let ⟨y,hy,he⟩:=B
   subst he
   split at hy
   .cases hy;have:A∈bf.ak:=E;rw[p.iL]at this;cases this
   .cases hy
 .intro A x B;exact a.ew A x B
 .exact⟨n.os.trans a.below.os,n.tape.trans a.below.tape,n.output.trans a.below.output,bm a.below.size n.size,λU hk X=>by rw[n.block U (iI hk a.below.size)];exact a.below.block U hk X⟩
 .intro b o c X;show H' b o=F.H0 b o;rw[z b o (iI c a.below.size)];exact a.fresh b o c X
end
def iE{a:Type}(t:Y)(v:a):V (Y×a)->V (Y×a)
 |[]=>[(t,v)]
 | (k,x)::d=>if k=t then(t,v)::d else(k,x)::iE t v d
def ov{f:Type}(t a:Y)(v:f):∀l:V (Y×f),S a (iE t v l)=if t=a then ad v else S a l
 |[]=>by simp[iE,S]
 | (k,x)::g=>by
  simp only[iE];split
  .rename_i d;subst d;simp only[S];split<;>rfl
  .rename_i d;simp only[S];split
   .rename_i i;subst i;rw[w (λm=>d m.symm)]
   .exact ov t a v g
def gH(P:bW)(n:Y)(d:Array a4)(i:Y)(m f:St)(k o:Y)(p:Ks):Prop:=
 ∃g l,vo P n d i g l (λs=>k<=s/\s<o)/\(∀kx∈g,m.kn kx.1=ad kx.2)/\f.kn=bs m.kn l/\k<=o/\(∀a∈dI g,a∈p.1)/\∀a∈fW l,a∈p.2
section
variable{P:bW}{tt:TT}
def gH.Q9{n}{a}{i}{p d f}{k}{s}(t:kT P n a i p d k s)(g:f.kn=d.kn):gH P n a i p f k (k+1) s:=by let ⟨rd,wr,u,l,v,m,o⟩:=t;exact⟨rd,wr,u.Kh ⟨aO _,O⟩,l,by rw[g,v],O,m,o⟩
def gH.mG{n}{d}{i}{m f:St}{k}{o}{g}{l}(v:iA P n d i g l k)(p:∀kx∈g,m.kn kx.1=ad kx.2)(s:f.kn=bs m.kn l)(t:∀a∈dI g,a∈o.1)(u:∀a∈fW l,a∈o.2):gH P n d i m f k (k+1) o:=
 ⟨g,l,v.Kh ⟨aO _,O⟩,p,s,O,t,u⟩
def gH.lift{n}{f}{i}{o}(A:f[i]? =ad o)(u:o.guard=none){v l}{k x}{y}(B:gH P n #[o] 0 v l k x y):gH P n f i v l k x y:=by let ⟨rd,wr,C,h2⟩:=B;refine⟨rd,wr,?_,h2⟩;intro F s Q d H g W a K m p L M;have t:=C F s Q d H g W a K m p L M;unfold wpOp at t⊢;simp only[A,gV,u,cj];simp only[vr,m9,gV,u,cj]at t;exact t
def gH.guard{n}{f}{i}{o}(ho:f[i]? =ad o){na}{d}(hg:o.guard=ad (na,d)){t}(hj:oT f.toList na=ad t){y u}(hb:S t y.sl=ad (.c<|.B d)){k k'}{A}
  (m:gH P n #[{o with guard:=none}] 0 y u k k' A):gH P n f i y u k k' (.s t::A.1,A.2):=by
 let ⟨rd,wr,q,C,H,hle,L,M⟩:=m
 refine⟨(.s t,.v<|.c<|.B d)::rd,wr,?_,?_,H,hle,λT b=>?_,M⟩
 .intro F U Q p r g W a K x l e w;have X:=q F U Q p r g W a K x l (λkx b7=>e kx ef) w;have z:=l.eY t (.c<|.B d)<|e (.s t,.v<|.c<|.B d) az;have D:gV o (yielded f a.tmps)=ae:=by simp only[gV,hg,DK hj z,beq_self_eq_true]
  unfold wpOp at X⊢;simp only[ho,D,cj];simp only[vr,m9,gV,cj]at X;exact X
 .intro kx b7;rcases b9.1 b7 with rfl|m
  .simp[St.kn,hb]
  .exact C kx m
 .simp only[dI,il,b9]at b;rcases b with m|m
  .simp[m]
  .exact ko _<|L T m
def Q'(a:St) d x:(⟨iE d x a.sl,a.mem,a.nx,a.gd⟩:St).kn=bs a.kn [(.s d,ad<|.v x)]:=by
 funext key;cases key with
 |s t=>
  by_cases e:d=t
  .simp[St.kn,ov,bs,aE,e]
  .simp[St.kn,ov,bs,aE,e]
 |m id=>simp[St.kn,bs,aE]
def Ea(a:St) d id x f:(⟨iE d x a.sl,(id,f)::a.mem,a.nx,a.gd⟩:St).kn=bs a.kn [(.s d,ad<|.v x),(.m id,ad<|.b f)]:=by
 funext key;cases key with
 |s t=>
  by_cases e:d=t
  .simp[St.kn,ov,bs,aE,e]
  .simp[St.kn,ov,bs,aE,e]
 |m j=>
  by_cases e:id=j
  .simp[St.kn,S,bs,aE,e]
  .simp[St.kn,S,bs,aE,e]
def Yf(a:St) d id x f:(⟨iE d x a.sl,iE id f a.mem,a.nx,a.gd⟩:St).kn=bs a.kn [(.s d,ad<|.v x),(.m id,ad<|.b f)]:=by
 funext key;cases key with
 |s t=>
  by_cases e:d=t
  .simp[St.kn,ov,bs,aE,e]
  .simp[St.kn,ov,bs,aE,e]
 |m j=>
  by_cases e:id=j
  .simp[St.kn,ov,bs,aE,e]
  .simp[St.kn,ov,bs,aE,e]
def ajR(a:St) d id new x f(g:id≠new):(⟨iE d x a.sl,(new,f)::ry id a.mem,a.nx,a.gd⟩:St).kn=bs a.kn [(.s d,ad<|.v x),(.m new,ad<|.b f),(.m id,none)]:=by
 funext key;cases key with
 |s t=>
  by_cases e:d=t
  .simp[St.kn,ov,bs,aE,e]
  .simp[St.kn,ov,bs,aE,e]
 |m j=>
  by_cases e:new=j
  .simp[St.kn,S,bs,aE,e]
  .simp only[St.kn,S,bs,aE,e,reduceCtorEq,Key.m.injEq,bN,A3];split<;>simp
end
abbrev Hu:=FuncId->V AV->V (Y×aG)->Y->ax (AV×V (Y×aG)×Y)
def Lv{a:Type}:V (Y×a)->V (Y×a)
 |[]=>[]
 | (t,v)::d=>iE t v d
def nR(s m:Bool)(a:St):St:=⟨cond s (Lv a.sl) a.sl,cond m (Lv a.mem) a.mem,a.nx,a.gd⟩
def Yg{d:Type}(a:Y):∀l:V (Y×d),S a (Lv l)=S a l
 |[]=>rfl
 | (t,v)::f=>by simp only[Lv,ov,S]
def Yh s m st:(nR s m st).kn=st.kn:=by
 funext key;cases key with
 |s t=>cases s<;>simp[St.kn,nR,Yg]
 |m id=>cases m<;>simp[St.kn,nR,Yg]
def yY(d:TT)(g i:Y):ax (Y×TI):=match S g d,S i d with
 |some a,ad b=>(match a.kind,b.kind with
  | .sl E,.sl _=>(match S E d with
   |some f=>if 0<f.size then ad (E,f)else none
   |none=>none)
  |_,_=>none)
 |_,_=>none
def reach:Y->V (Y×aG)->V Y->V (Y×aG)->V (Y×aG)
 |0,_,_,acc=>acc
 |_+1,_,[],acc=>acc
 |f+1,mem,id::todo,acc=>match S id acc with
  |some _=>reach f mem todo acc
  |none=>(match S id mem with
   |some a=>reach f mem (a.ak++todo)<|(id,a)::acc
   |none=>reach f mem todo acc)
def Hv(a d f:Y):Bool:=dP ((d+d/4+192)*f) 281474976710656&&dP d 16777216&&dP a 16777216
def Ec(fm:V (Y×aG)):V (Y×aG)->V (Y×aG)
 |[]=>[]
 | (id,d)::a=>match S id fm with
  |some _=>Ec fm a
  |none=>(id,d)::Ec fm a
def Ra(p:TT)(n k d:Y)(x y:eI)(t u:Y)(a:St):ax (St×Y×Ks):=match yY p t u with
 |some (E,g)=>(match a.ev x,a.ev y with
  |some v,ad A=>(match ud a g.size A with
   |some (m,cs,is)=>if cs.all kq=ae then(match v with
    | .c (.V<|.slice none 0 0)=>if m=0 then ad (⟨iE d (.c<|.V<|.slice none 0 0) a.sl,a.mem,a.nx,a.gd⟩,k+1,(bK [x,y]++cV is,[.s d]))
     else if Hv 0 m g.bytes then ad (⟨iE d (.c<|.L k 0 m none) a.sl,(k,.box E g.size cs)::a.mem,a.nx,a.gd⟩,k+1,(bK [x,y]++cV is,[.s d,.m k]))else none
    | .c (.L id off len<|ad o)=>(match S id a.mem with
     |some (.box i l f)=>if len+m<=o then
       (if off+(len+m)*g.size<=Z f then ad (⟨iE d (.c<|.L id off (len+m)<|ad o) a.sl,iE id (.box i l<|c9 f cs<|off+len*g.size) a.mem,a.nx,a.gd⟩,k+1,(bK [x,y]++cV (id::is),[.s d,.m id]))else none)
      else(if off+len*g.size<=Z f/\Hv 0 (len+m) g.bytes=ae then ad (⟨iE d (.c<|.L k 0 (len+m) none) a.sl,(k,.box E g.size<|(aA off f).take (len*g.size)++cs)::a.mem,a.nx,a.gd⟩,k+1,(bK [x,y]++cV (id::is),[.s d,.m k]))else none)
     |_=>none)
    | .c (.L id _ len none)=>(match S id a.mem with
     |some (.box i l f)=>if i=E/\l=g.size/\len*g.size<=Z f/\id≠k/\Hv 0 (len+m) g.bytes=ae then
       ad (⟨iE d (.c<|.L k 0 (len+m) none) a.sl,(k,.box E g.size<|c (len*g.size) f++cs)::ry id a.mem,a.nx,a.gd⟩,k+1,(bK [x,y]++cV (id::is),[.s d,.m k,.m id]))else none
     |_=>none)
    |_=>none)else none
   |none=>none)
  |_,_=>none)
 |none=>none
section
variable{P:bW}{tt:TT}
def Lw(f:cq P tt=ae){v x y}{n}(d:yY tt v x=ad (y,n)):D2 P v x y n.size n.bytes:=by
 unfold yY at d;split at d
 .rename_i a b C H;split at d
  .rename_i L M o p;split at d
   .rename_i s g;split at d
    .rename_i i;simp only[ar,bM]at d;obtain⟨rfl,rfl⟩:=d;have A:=(eS f C).kind;rw[o]at A;have B:=(eS f H).kind;rw[p]at B;let ⟨inf,k,l,m,z,t,u⟩:=(eS f g).info;have K:=(eS f g).W4;refine⟨A,⟨_,B⟩,⟨inf,z,k,l,m,t,?_⟩,i⟩;have:Z z.cells.toList=Z (s.zero.map ZV.e9):=by rw[u]
     simp only[Hc,cy]at this;omega
    .simp at d
   .simp at d
  .simp at d
 .simp at d
def Rb{a f d}(g:Hv a f d=ae):(f+f/4+192)*d<=281474976710656/\f<=140737488355328:=by simp only[Hv,cz]at g;have i:=c8 g.1.1;have k:=c8 g.1.2;exact⟨i,O⟩
def Bm{d}{x y}{a}:∀f∈dI (cJ d x++cJ d y++fL d a),f∈bK [x,y]++cV a:=by
 intro k g;simp only[dI,fM,bg]at g;rcases g with(h|h)|h
 .exact eH _<|eO d [x,y] k tV
 .exact eH _<|eO d [x,y] k vD
 .exact gD _<|ku d a k h
def Ed{d}{x y}{a}:∀kx∈cJ d x++cJ d y++fL d a,d.kn kx.1=ad kx.2:=by
 intro kx f;rcases bg.1 f with h|h
 .rcases bg.1 h with h|h
  .exact eD _ x kx h
  .exact eD _ y kx h
 .exact kr _ a kx h
def ajS(di:cq P tt=ae){n k d:Y}(f:d<n){o:a4}(u:o.guard=none)(v:o.dst=ad d){x y}{t1 t2:Y}(g:o.op= .call ⟨.builtin .append,#[x,y],#[t1,t2]⟩){p A}{k'}{ks}
  (a:Ra tt n k d x y t1 t2 p=ad (A,k',ks)):gH P n #[o] 0 p A k k' ks:=by
 have B:(#[o]:Array a4)[0]? =ad o:=rfl
 unfold Ra at a
 split at a
 .rename_i E q r;have C:=Lw di r;split at a
  .rename_i F G H K;split at a
   .rename_i m I is L;split at a
    .rename_i i;split at a
     .split at a
      .rename_i j;subst j;simp only[ar,bM]at a;obtain⟨rfl,rfl,rfl⟩:=a;exact .mG (ajt B u v f g C H K L i k) Ed (Q' p d _) Bm mH
      .split at a
       .rename_i j s;let ⟨M,h2⟩:=Rb s;simp only[ar,bM]at a;obtain⟨rfl,rfl,rfl⟩:=a;have:=X2 B u v f g C H K (len:=0) (c:=0) (cb:=[]) (ib:=[]) (by rfl) L i O (by simpa using M) qq k;simp only[ff,tS]at this;exact .mG this Ed (Ea p d k _ _) Bm mH
       .simp at a
     .rename_i U Q t c;split at a
      .rename_i w z T W;split at a
       .rename_i b;split at a
        .rename_i l;simp only[ar,bM]at a;obtain⟨rfl,rfl,rfl⟩:=a;exact .mG (aju B u v f g C H K W L i b l k) Ed (Yf p d U _ _) Bm mH
        .simp at a
       .rename_i D;split at a
        .rename_i X;let ⟨M,h2⟩:=Rb X.2;simp only[ar,bM]at a;obtain⟨rfl,rfl,rfl⟩:=a;have:=X2 B u v f g C H K (len:=t) (c:=c) (cb:=(aA Q T).take<|t*q.size) (ib:=[U]) (by simp[QT,W,X.1]) L i O M h2 k;exact .mG this Ed (Ea p d k _ _) Bm mH
        .simp at a
      .simp at a
     .rename_i U Q t;split at a
      .rename_i w z T W;split at a
       .rename_i X;obtain⟨rfl,rfl,l,e,s⟩:=X;let ⟨M,h2⟩:=Rb s;simp only[ar,bM]at a;obtain⟨rfl,rfl,rfl⟩:=a;exact .mG (ajv B u v f g C H K W L i l M h2 k) Ed (ajR p d U k _ _ e) Bm mH
       .simp at a
      .simp at a
     .simp at a
    .simp at a
   .simp at a
  .simp at a
 .simp at a
end
def Lx(fm a mem:V (Y×aG)):V (Y×aG):=match fm with
 |[]=>a++mem
 |fm=>a++Ec fm mem
def Re(i:Hu)(k d:Y)(l:eI)(args:V eI)(g:St):ax (St×Y×Ks):=match vM g l args with
 |some (f,vs,ids)=>(match reach 1000 g.mem (cR vs) []with
  |fm=>(match i f vs fm k with
   |some (r,a,m)=>if w7 k (cR vs)&&vF k fm&&yU k fm r.ak&&yV k fm a then
     ad (⟨iE d r g.sl,Lx fm a g.mem,g.nx,g.gd⟩,m,(bK (l::args)++cV (ids++fm.map (·.1)),.s d::(cV (fm.map (·.1))++cV (a.map (·.1)))))
    else none
   |none=>none))
 |none=>none
def Ee{d:Type}(a:Y):∀(l m:V (Y×d)),S a (l++m)=match S a l with|some x=>ad x|none=>S a m
 |[],m=>rfl
 | (t,v)::l,m=>by
  simp only[m7,S];split
  .rfl
  .exact Ee a l m
def Rf(fm:V (Y×aG))(a:Y):∀l:V (Y×aG),S a (Ec fm l)=if(S a fm).isSome then none else S a l
 |[]=>by simp[Ec,S]
 | (id,i)::g=>by
  simp only[Ec];split
  .rename_i x f;rw[Rf fm a g];by_cases d:id=a
   .subst d;simp[f]
   .simp[S,d]
  .rename_i f;simp only[S];by_cases d:id=a
   .subst d;simp[f]
   .simp only[d,bN];exact Rf fm a g
def ajT(fm a mem:V (Y×aG))(d:Y):S d (Lx fm a mem)=match S d a with|some x=>ad x|none=>if(S d fm).isSome then none else S d mem:=by
 unfold Lx;split
 .rw[Ee];cases S d a<;>simp[S]
 .rw[Ee,Rf];cases S d a<;>rfl
def Ly(mem:V (Y×aG)):∀(f:Y)(d:V Y)(a:V (Y×aG)),(∀i k,S i a=ad k->S i mem=ad k)->∀i k,S i (reach f mem d a)=ad k->S i mem=ad k
 |0,_,a,g=>by simpa[reach]using g
 |f+1,[],a,g=>by simpa[reach]using g
 |f+1,i::d,a,g=>by
  simp only[reach];split
  .exact Ly mem f d a g
  .split
   .rename_i k m;refine Ly mem f _ _ ?_;intro n o l;simp only[S]at l;split at l
    .rename_i p;subst p;cases l;exact m
    .exact g n o l
   .exact Ly mem f d a g
section
variable{P:bW}{tt:TT}
def ajU(f:St) d k n fm a(g:yV k fm a=ae):(⟨iE d n f.sl,Lx fm a f.mem,f.nx,f.gd⟩:St).kn=bs f.kn ((.s d,ad<|.v n)::(o0 a fm++kY k a)):=by
 funext key;cases key with
 |s t=>
  by_cases e:d=t
  .simp[St.kn,ov,bs,aE,e]
  .simp[St.kn,ov,bs,aE,e,ug,D6,yS]
 |m j=>
  simp only[St.kn,bs,aE,reduceCtorEq,bN,ug,Hk,yT,ajT]
  by_cases h:(S j fm).isSome=ae
  .simp only[h,cj];cases S j a<;>rfl
  .simp only[h,bN,iB];cases o:S j a with
   |none=>by_cases i:k<=j<;>simp[i]
   |some b=>
    have i:k<=j:=by
     rcases(Q1 g j b o).1 with l|⟨p,l⟩
     .exact l
     .rw[l]at h;simp at h
    simp[i]
def Yi(a:V (Y×aG)):∀fm:V (Y×aG),fW (o0 a fm)=cV (fm.map (·.1))
 |[]=>rfl
 | (id,f)::d=>by simp only[o0,fW,il,cV];have:=Yi a d;simp only[fW]at this;rw[this]
def Rg(k:Y):∀(fm:V (Y×aG)),∀a∈fW (kY k fm),a∈cV (fm.map (·.1))
 |[],a,d=>by simp[kY,fW]at d
 | (id,g)::f,a,d=>by
  simp only[kY]at d;simp only[il,cV,b9];split at d
  .simp only[fW,il,b9]at d;rcases d with d|d
   .exact .inl d
   .exact .inr<|Rg k f a d
  .exact .inr<|Rg k f a d
def ajV{s:Hu}(t:∀f vs fm k L g u,s f vs fm k=ad (L,g,u)->CX P f vs fm k L g u){n k d:Y}(M:d<n){o:a4}(hg:o.guard=none)(hd:o.dst=ad d){v}{args}{Q}(T:o.op= .call ⟨.value v,args,Q⟩){p y}{u}{ks}
  (h:Re s k d v args.toList p=ad (y,u,ks)):gH P n #[o] 0 p y k u ks:=by
 have j:(#[o]:Array a4)[0]? =ad o:=rfl
 unfold Re at h
 split at h
 .rename_i f vs A q;generalize U:reach 1000 p.mem (cR vs) []=fm at h;simp only at h;split at h
  .rename_i L g E w;split at h
   .rename_i e;simp only[cz]at e;let ⟨⟨⟨W,X⟩,c⟩,B⟩:=e;simp only[ar,bM]at h;obtain⟨rfl,rfl,rfl⟩:=h;have C:=t _ _ _ _ _ _ _ w;refine⟨_,_,Ye j hg hd M T q C W X c B ?_,?_,ajU p d k L fm g B,C.le,?_,?_⟩
    .rw[<-U];exact Ly p.mem 1000 _ [] (λF b h=>by simp[S]at h)
    .intro kx H;simp only[bg]at H;rcases H with((h|h)|h)|h
     .exact eD _ v kx h
     .let ⟨x,_,h⟩:=jb.1 h;exact eD p x kx h
     .exact kr _ A kx h
     .exact kr _ _ kx h
    .intro i K;simp only[dI,fM,bg]at K;have z:∀(l m:V Y),cV (l++m)=cV l++cV m:=by
      intro l m;induction l with
      |nil=>rfl
      |cons a l D=>simp only[m7,cV,D]
     rw[z];simp only[bg];rcases K with((h|h)|h)|h
     .exact .inl<|eO p (v::args.toList) i tV
     .exact .inl (eO p (v::args.toList) i<|by simp only[dI,lG,fM,bg];exact .inr h)
     .exact .inr<|.inl<|ku p A i h
     .exact .inr<|.inr<|ku p _ i h
    .intro i K;simp only[fW,il,fM,b9,bg]at K⊢;rcases K with h|h|h
     .exact .inl h
     .refine .inr<|.inl ?_;rw[<-Yi g fm];exact h
     .exact .inr<|.inr<|Rg k g i h
   .simp at h
  .simp at h
 .simp at h
end
end Go.El
