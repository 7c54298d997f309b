/- The engine, part 19: append. Own work; no condition. -/
import Derived.Deep.AppendSrc
import Derived.Deep.DeepAppendWide
import Derived.Test.YtkkccchkmcjcpaaGreatProg
import Derived.KernelRfl
import Derived.Test.YtkkccchkmcjcpaaGreatV2
set_option linter.all false
set_option maxHeartbeats 16000000
set_option maxRecDepth 100000
open Bool renaming true->ae,false->ah
open Go renaming Program->cT,Value->bH,World->da,TypeId->eL,Oper->dv,Operand->rB
open Go.Act renaming put->jq
open Go.Builtin renaming firstCells->Df,lenOf->Xr,append_->Kw
open Go.El renaming gy->L,kZ->w
open Go.Instr renaming sliceBound->PL,sliceAt->Ql,sliceBounds->wT,slice->XB,build->F7,index->KH
open Go.Oper renaming wp->uk,upon->sL
open Go.Proofs.Tryz renaming prog->j
open Go.Region renaming wanted->nG
open Go.Result renaming andThen->eP
open Go.Sem renaming run_bind->dY,run->lU
open Go.World renaming block_lt_of_cell?->FZ
open Int renaming toNat->ad
open List renaming length->G,drop->aE,take->y,replicate->bh
open Nat renaming blt->f',ble->iv
open _root_ renaming Nat->I,List->V,Option->bF,Int->Z
namespace Go.El
open Go Go.Proofs Go.RowKit
section
variable{P:cT}{tt:TT}{n:I}
def Xq{g}{c}{f}{v}(bW:dn g (.S c f) v):
  ∃d:V bH,(∀W:da,Sub g.H W->(Df c.n (G f) v).run P W= .ok d.toArray W)/\G d=G f*c.n/\(∀i(bW:i<G f),dk g.H c f[i] ((aE (i*c.n) d).take c.n))/\∀oO∈d,oI oO=ae:=by
 obtain⟨a,t,rfl,I,J,r⟩:=bW
 by_cases s:f=[]
 .subst s;refine⟨[],λW _=>?_,ax,ax,ax⟩;cases a with
  |none=>simp[Df,pure]
  |some a=>simp[Df,loadCells,loadCellsFrom,pure]
 .rcases r with r|⟨b,off,rfl,r⟩
  .exact absurd r s
  .let d:=(List.range<|G f*c.n).map λk=>(g.H b<|off+k).getD undef
   have x:G d=G f*c.n:=by simp[d]
   have l:∀i(K:i<G f),∃m,G m=c.n/\dk g.H c f[i] m/\(aE (i*c.n) d).take c.n=m/\∀j(Q:j<G m),g.H b (off+(i*c.n+j))=some m[j]:=by
    intro i K;let ⟨m,hl,B,hc⟩:=r i K;have R:(i+1)*c.n<=G f*c.n:=eB _ S;rw[g7,iL]at R;refine⟨m,hl,B,?_,λj Q=>by rw[<-qv];exact hc j Q⟩;apply lq
    .simp[d];omega
    .intro j w U;simp only[sT,uw,d,og,uA];rw[<-qv,hc j U];rfl
   have p:∀k(X:k<G d),∃v,g.H b (off+k)=some v/\d[k]=v/\oI v=ae:=by
    intro k X;have C:=c.Ct;have e:k<G f*c.n:=S;have y:k/c.n<G f:=Db (by rw[fR];exact e);have L:k%c.n<c.n:=fg _ C;let ⟨m,hl,B,E,hc⟩:=l (k/c.n) y;have o:k/c.n*c.n+k%c.n=k:=by rw[fR];exact sZ k c.n
    have:=hc (k%c.n) S;rw[o]at this;refine⟨_,this,?_,?_⟩
    .simp only[d,og,uA,this,Aj]
    .exact(Cv (g:=g) c _ _ B).one (C1 c _) _<|j6 _
   refine⟨d,λW F=>?_,x,λi K=>?_,λoO z=>?_⟩
   .simp only[Df,loadCells];have:=run_loadCellsFrom (P:=P) (W:=W) b (G f*c.n) 0 off d #[] x (λj Q=>by let ⟨v,A,q,_⟩:=p j Q;rw[jE,F _ _ _ A,q]);simpa using this
   .let ⟨m,hl,B,E,_⟩:=l i K;rw[E];exact B
   .obtain⟨k,X,rfl⟩:=AM z;let ⟨v,_,q,D⟩:=p k X;rw[q];exact D
def ah5{W}{x B ty E Q}{c:TypeInfo}(k:P.underlying x=some (.slice E))(l:P.underlying B=some (.slice Q))(R:P.info? E=some c){b a d}{p}{m}(U:(Xr p).run P W= .ok m W)
 {f vs}{F}(r:(Df c.size m p).run P W= .ok f.toArray W) (hh:W.heap[b]? =some (.cells vs.toArray F (0,0))) (g:∀oO∈f,oI oO=ae) (v:a+m<=d) (H:a*c.size+G f<=G vs):
  (Kw #[x,B] ty #[.slice (some ⟨b,0,none⟩) a d,p]).run P W= .ok (.slice (some ⟨b,0,none⟩) (a+m) d) (jr W b (dx vs f<|a*c.size) F):=by
 have i:=CY (P:=P) b f W vs (a*c.size) 0 hh S g
 simp only[jE]at i
 unfold Kw
 simp only[FI,yI,At]
 rw[dY,run_underlying k]
 simp only[eP]
 rw[dY,run_sizeOf R]
 simp only[eP]
 rw[dY,run_underlying l]
 simp only[eP,pure_bind,jQ,cC,Gg,cA]
 rw[dY,U]
 simp only[eP,v,cA]
 rw[dY,r]
 simp only[eP,pv,dU]
 rw[dY,i]
 rfl
def Gi(d:I->Prop)(g:Gh)(W:da)(E:eL)(c:ET)(xs:V c.den)(v:bH):Prop:=
 (v= .slice none 0 0/\xs=[])\/∃b a,∃vs:V bH,v= .slice (some ⟨b,0,none⟩) (G xs) a/\W.heap[b]? =some (.cells vs.toArray E (0,0))/\
   G vs=a*c.n/\G xs<=a/\G xs*c.n<=140737488355328/\(∀i(h:i<G xs),dk g.H c xs[i] ((aE (i*c.n) vs).take c.n))/\d b/\∀o,g.H b o=none
def Xs{a:Type}(vs:V a) n i m(b:i<m):y n ((y (m*n) vs).drop<|i*n)=(aE (i*n) vs).take n:=by have c:(i+1)*n<=m*n:=eB _ b;rw[g7,iL]at c;rw[List.drop_take,Gj];congr 1;omega
def ah6{b:Type}(a vs:V b) n m i(c:G a=m*n)(d:m<=i):y n (aE (i*n)<|a++vs)=(aE ((i-m)*n) vs).take n:=by have f:m*n<=i*n:=eB _ d;rw[List.drop_append,wX S,sV,c,Nat.sub_mul]
def Xt{b:Type}(a vs:V b) n m i(f:G a=m*n)(c:i<m):y n (aE (i*n)<|a++vs)=(aE (i*n) a).take n:=by have d:(i+1)*n<=m*n:=eB _ c;rw[g7,iL]at d;rw[Av S,yM bP]
def Xu{H}{a}{xs b}{d f rest}(g:G d=G xs*a.n)(k:G f=G b*a.n)(l:∀i(c:i<G xs),dk H a xs[i] ((aE (i*a.n) d).take a.n))(m:∀i(c:i<G b),dk H a b[i] ((aE (i*a.n) f).take a.n)):
  ∀i(c:i<G (xs++b)),dk H a (xs++b)[i] (y a.n<|aE (i*a.n)<|d++f++rest):=by
 intro i p
 rw[List.getElem_append]
 split
 .rename_i c;rw[jR,Xt d _ a.n (G xs) i g c];exact l i c
 .rename_i c;simp only[fO]at p;rw[jR,ah6 d _ a.n (G xs) i g S,Xt f _ a.n (G b) _ k S];exact m _ S
def ah7{lX:I->Prop}{g}{W}(p:Sub g.H W){E E2 t1 t2 ty}{m}{xs l}{v dT}{d:TypeInfo}{g6}(Qd:P.underlying t1=some (.slice E))(po:P.underlying t2=some (.slice E2))(R:P.info? E=some d)(hz:d.zero=some g6)(Gk:g6.cells.size=d.size)(U:d.size=m.n)
  (hv:Gi lX g W E m xs v) (hy:dn g (.S m l) dT) (hb:((G xs+G l)+(G xs+G l)/4+192)*d.bytes<=281474976710656) (oM:(G xs+G l)*m.n<=140737488355328) (hN:lX W.heap.size):
  ∃v' r,(Kw #[t1,t2] ty #[v,dT]).run P W= .ok v' r/\Gi lX g r E m (xs++l) v'/\W.heap.size<=r.heap.size/\(∀k,k<W.heap.size->cP v≠some k->r.heap[k]? =W.heap[k]?)/\r.os=W.os/\r.tape=W.tape/\r.output=W.output/\Sub g.H r/\(∀k,cP v'=some k->W.heap.size<=k\/cP v=some k):=by
 let ⟨us,t,B,L,M⟩:=Xq (P:=P) hy
 have C:Sub g.H W.drew:=p
 have X:=t W p
 have O:=t W.drew C
 have q:∀o,g.H W.heap.size o=none:=by
  intro o;cases hv:g.H W.heap.size o with
  |none=>rfl
  |some v=>
   have:=FZ W _<|p _ _ _ hv
   simp at this
 have F:∀w':da,(Xr dT).run P w'= .ok (G l) w':=by obtain⟨a,K,rfl,_⟩:=hy;intro w';rfl
 have Y:=m.Ct
 have Q:∀(base:bF Addr)(c:I)(f:V bH),v= .slice base (G xs) c->(Df d.size (G xs)<|.slice base (G xs) c).run P W.drew= .ok f.toArray W.drew->G f=G xs*m.n->(∀i(h:i<G xs),dk g.H m xs[i] ((aE (i*m.n) f).take m.n))->c<G xs+G l->
   ∃v' r,(Kw #[t1,t2] ty #[v,dT]).run P W= .ok v' r/\Gi lX g r E m (xs++l) v'/\W.heap.size<=r.heap.size/\(∀k,k<W.heap.size->cP v≠some k->r.heap[k]? =W.heap[k]?)/\r.os=W.os/\r.tape=W.tape/\r.output=W.output/\Sub g.H r/\(∀k,cP v'=some k->W.heap.size<=k\/cP v=some k):=by
  intro base c f hv hold Gn hor iD
  subst hv
  have ah9:Src P d.size t2 dT (G l) us W:=⟨.inl ⟨_,po⟩,F,by rw[U];exact X,by rw[U];exact O,by rw[U];exact B,λu hu=>by have:=M u hu;revert this;cases u<;>simp[oI,Value.oneCell']⟩
  have A:((G xs+G l:I):Z)<=9223372036854775807:=by have:(G xs+G l)*1<=(G xs+G l)*m.n:=jw _ Y;omega
  have hr:=run_append_grow_src (P:=P) W t1 t2 ty E d g6 Qd R hz base (G xs) c f hold dT (G l) us ah9 iD A<|growslice_fits_wide iD hb
  have CT:=grownCap_ge W (G xs+G l) c E
  refine⟨_,_,hr,.inr ⟨W.heap.size,grownCap W (G xs+G l) c E,f++us++(Builtin.zeroCells g6.cells<|grownCap W (G xs+G l) c E-(G xs+G l)).toList,ax,by rw[show W.heap.size=W.drew.heap.size from J,heap_alloc_new];congr 2;apply PQ;simp,?_,by simpa using CT,Dc,Xu Gn B hor L,hN,q⟩,ax,?_,J,J,J,?_,?_⟩
  .simp only[fO,Gn,B,Qe,size_zeroCells,Gk,U,<-g7];congr 1;omega
  .intro k D _;exact heap_alloc_old W.drew _ D
  .exact FY C _
  .intro k D;simp only[cP,aR]at D;exact .inl S
 rcases hv with⟨rfl,rfl⟩|⟨b,K,vs,rfl,hh,s,hle,auL,hr,hNb,hH⟩
 .by_cases Xv:l=[]
  .subst Xv;refine⟨.slice none 0 0,W,?_,.inl ⟨J,J⟩,a8 _,λ_ _ _=>rfl,J,J,J,p,by simp[cP]⟩;have h0:us=[]:=et (by simpa using B);subst h0;rw[<-U]at X;simp[Kw,run_underlying Qd,run_underlying po,sizeOf,typeInfo,R,F];have h3:(Df d.size 0 dT).run P W= .ok #[] W:=by simpa using X
   rw[h3];rfl
  .have:=bX.2 Xv;exact Q none 0 [] J (run_firstCells_none W.drew _ 0 0 0) ax ax (by simpa using this)
 .by_cases x:G xs+G l<=K
  .have vA:b<W.heap.size:=(jP.1 hh).1;have w:G xs*d.size+G us<=G vs:=by rw[B,s,U,<-g7];exact eB _ x
   have k4:=ah5 (P:=P) (ty:=ty) Qd po R (F W) (by rw[U];exact X) hh M x w;refine⟨_,_,k4,.inr ⟨b,K,dx vs us<|G xs*d.size,ax,CU vA,by rw[CW _ _ _ w];exact s,by simpa using x,Dc,?_,hNb,hH⟩,by simp[jr],?_,J,J,J,FW p hH,?_⟩
   .unfold dx;rw[U];refine Xu ?_ B (λi R=>?_) L
    .simp only[il];rw[s];have:=eB m.n hle;omega
    .rw[Xs _ _ _ _ R];exact hr i R
   .intro k _ D;exact CV (λe=>D<|by simp[cP,e])
   .intro k D;exact .inr D
  .have auM:=eB m.n hle;have AN:(y (G xs*m.n) vs).length=G xs*m.n:=by rw[il,s];omega
   refine Q (some ⟨b,0,none⟩) K (y (G xs*m.n) vs) J ?_ AN (λi R=>by rw[Xs _ _ _ _ R];exact hr i R) S;rw[U];refine run_firstCells_some W.drew m.n (G xs) ⟨b,0,none⟩ (G xs) K _ AN ?_;intro j u hj;let ⟨WE,Aq⟩:=uv.1 hj;simp only[sT]at Aq;simp only[pv,dU];have hh':W.drew.heap[b]? =some (.cells vs.toArray E (0,0)):=hh;rw[sU hh' j (by simp at WE;omega),Aq]
def Kx{a:Act}{d}{b:Builtin}{args}{c}(f:d.op= .call ⟨.builtin b,args,c⟩){W W'}{v}(g:∀i,(Go.builtin b c d.type i<|args.map a.eval).run P W= .ok (.value v) W'):(execOp a.eval d).run P W= .ok (.value v) W':=by rw[execOp,f];simp only[resolve,pure_bind,invoke];exact g _
def uB:V I->V (Key×bF Info)
 |[]=>[]
 |id::r=>(.m id,none)::uB r
def AO:V I->V (I×aH)->V (I×aH)
 |[],l=>l
 |id::r,l=>AO r<|vG id l
def Qf ids a:bf (uB ids) (.s a)=none:=by
 induction ids with
 |nil=>rfl
 |cons id r b=>simp[uB,bf,b]
def AP(a:I):∀(b:V I),bf (uB b) (.m a)=if a∈b then some none else none
 |[]=>by simp[uB,bf]
 |id::r=>by
  simp only[uB,bf,Key.m.injEq,df];by_cases c:id=a
  .simp[c]
  .rw[M c,AP a r];by_cases h2:a∈r
   .simp[h2]
   .have:¬(a=id\/a∈r):=by rintro(e|e);exact c e.symm;exact h2 e
    rw[M h2,M this]
def Xw(a:I):∀(b:V I)(l:V (I×aH)),w a (AO b l)=if a∈b then none else w a l
 |[],l=>by simp[AO]
 |id::r,l=>by
  simp only[AO];rw[Xw a r,F8];by_cases c:id=a
  .simp[c]
  .have:¬(a=id):=λe=>c e.symm
   simp[c,this]
def aib(a:St) d new ids x b:(⟨(d,x)::a.sl,(new,b)::AO ids a.mem,a.nx,a.gd⟩:St).kn=dB a.kn ((.s d,some<|.v x)::(.m new,some<|.b b)::uB ids):=by
 funext k;cases k with
 |s t=>
  by_cases e:d=t
  .simp[St.kn,w,dB,bf,e]
  .simp[St.kn,w,dB,bf,e,Qf]
 |m j=>
  by_cases e:new=j
  .simp[St.kn,w,dB,bf,e]
  .simp only[St.kn,w,dB,bf,e,reduceCtorEq,Key.m.injEq,cC,Xw,AP];split<;>simp
def Xx(fc:cN P tt=ae){ops}{i}{br:dv}{d:I}(ho:ops[i]? =some br)(hg:br.guard=none)(hd:br.dst=some d){n}(dC:d<n){x U}{t1 t2}(dZ:br.op= .call ⟨.builtin .append,#[x,U],#[t1,t2]⟩)
 {B}{ids}{E E2:eL} {R}{xs ys:V R.den} (hx:(∃f,ids=[f]/\B.ev x=some (.c<|.X f)/\w f B.mem=some (.vec E R xs))\/(ids=[]/\B.ev x=some (.c<|.V<|.slice none 0 0)/\xs=[]))
  (hy:B.ev U=some (.c<|.S R ys)) {ti Xy ei:TI} (ry:w t1 tt=some ti) (hk:ti.kind= .sl E) (aic:w t2 tt=some Xy) (oe:Xy.kind= .sl E2) (s0:w E tt=some ei) (qx:ei.size=R.n) (Ky:G ei.zero=R.n)
  (hb:((G xs+G ys)+(G xs+G ys)/4+192)*ei.bytes<=281474976710656) (oM:(G xs+G ys)*R.n<=140737488355328) (l:I):
  lI P n ops i B ⟨(d,.c<|.X l)::B.sl,(l,.vec E R<|xs++ys)::AO ids B.mem,B.nx,B.gd⟩ l (cH [x,U]++fv ids,.s d:: .m l::fv ids):=by
 refine⟨dO B x++dO B U++k5 B ids,(.s d,some<|.v<|.c<|.X l)::(.m l,some<|.b<|.vec E R<|xs++ys)::uB ids,?_,?_,aib B d l ids _ _,?_,?_⟩
 .intro F nF Q known σ g W a K q bC A hK;have F4:dn g (.S R ys) (a.eval U):=gO bC B U _ hy<|λO dL=>A O jt;have hv:Gi F.N g W E R xs (a.eval x)/\(∀k,cP (a.eval x)=some k->∃f b,ids=[f]/\σ (.m f)=some (.b b)/\cP (g.γ f)=some k):=by
   rcases hx with⟨f,rfl,hx,hl⟩|⟨rfl,hx,rfl⟩
   .have AQ:a.eval x=g.γ f:=gO bC B x _ hx<|λO dL=>A O jt;have D:σ (.m f)=some (.b<|.vec E R xs):=A (.m f,.b<|.vec E R xs) sW;rw[AQ];exact⟨bC.db f _ D,λk hk=>⟨f,_,J,D,hk⟩⟩
   .have AQ:a.eval x= .slice none 0 0:=gO bC B x _ hx<|λO dL=>A O jt;rw[AQ];exact⟨.inl ⟨J,J⟩,by simp[cP]⟩
  let ⟨hv,Dg⟩:=hv;have h1:=(g5 fc ry).kind;rw[hk]at h1;have h2:=(g5 fc aic).kind;rw[oe]at h2;let ⟨inf,aid,auN,Xz,z,Qg,Az⟩:=(g5 fc s0).info;have Gk:z.cells.size=inf.size:=by
   have:G z.cells.toList=(ei.zero.map ZV.gq).length:=by rw[Az]
   simp only[Qe,cL]at this;omega
  let ⟨v',W',k4,aie,ki,aif,e1,e2,e3,AR,aih⟩:=ah7 (P:=P) (ty:=br.type) bC.sub h1 h2 aid Qg Gk S hv F4 (by rw[Xz];exact hb) oM<|.inl bC.below.size;unfold wpOp;simp only[ho,nG,hg,cA];refine .inl ?_;unfold uk;rw[Kx dZ (W':=W') (v:=v') (by have e:(#[x,U]:Array rB).map a.eval= #[a.eval x,a.eval U]:=ax;intro cs;rw[e];simp only[Go.builtin,dY,k4,eP];rfl)];simp only[sL,hd];have aii:d<a.tmps.size:=pq;let M:Gh:=⟨g.H,λf=>if f=l then v' else g.γ f⟩;have Qh:iT known g M:=⟨cz.refl _,λf p=>by
   have:f≠l:=λe=>q<|e▸p
   simp[M,this]⟩
  have Y:∀f∈ids,∃b,σ (.m f)=some (.b b):=by
   intro f p;rcases hx with⟨Dh,rfl,hx,hl⟩|⟨rfl,_⟩
   .simp only[iu]at p;subst p;exact⟨_,A (.m f,.b<|.vec E R xs) sW⟩
   .cases p
  have xn:∀f∈ids,f≠l:=λf p e=>by let ⟨b,hb⟩:=Y f p;exact q<|e▸bC.fD _ _ hb
  refine hK M _ _<|bC.step (chg:=λj=>j∈ids) (g':=M) ⟨Qh,λ_ _ _=>rfl,AR,ki,?_,e1,e2,e3⟩ _ l q qt bC.defers ?_ ?_ ?_ ?_ ?_ ?_
  .intro k hk L;refine aif k hk<|λe=>?_;obtain⟨f,b,rfl,D,pz⟩:=Dg k e;exact L f ax pz
  .intro t ht;have L:d≠t:=rz;simp[jq,nf L]
  .intro f p;refine⟨?_,Y f p⟩;simp only[bf,reduceCtorEq,cC,Key.m.injEq,AP,p,cA];split<;>simp
  .intro t u ht;simp only[bf]at ht;split at ht
   .rename_i e;simp only[Key.s.injEq]at e;simp only[aR,Info.v.injEq]at ht;subst e;subst ht;simp[jq,aii,bI,dn,M]
   .simp[Qf]at ht
  .intro f b ht;simp only[bf,reduceCtorEq,cC]at ht;split at ht
   .rename_i e;simp only[Key.m.injEq]at e;subst e;simp only[aR,Info.b.injEq]at ht;subst ht;have hr:Gi F.N M W' E R (xs++ys) (M.γ l):=by
     have e:M.γ l=v':=by simp[M]
     rw[e];exact aie
    refine⟨hr,.inr ⟨J,λk hk=>?_⟩⟩;simp only[M,cA]at hk;rcases aih k hk with h|h
    .exact .inl h
    .let ⟨f,b,Z,D,pz⟩:=Dg k h;refine .inr ⟨f,b,D,?_,pz⟩;have L:=xn f (by simp[Z]);simp only[bf,reduceCtorEq,cC,Key.m.injEq,Ne.symm L,AP];simp[Z]
   .rw[AP]at ht;split at ht<;>simp at ht
  .intro k U ht;simp only[bf]at ht;split at ht
   .simp only[aR]at ht;subst ht;intro f p;simp[Info.ar,AV.ar,C.ar]at p;exact .inr p
   .split at ht
    .simp only[aR]at ht;subst ht;intro f p;simp[Info.ar,aH.ar]at p
    .cases k with
     |s t=>simp[Qf]at ht
     |m j=>rw[AP]at ht;split at ht<;>simp at ht
  .intro f U ht;simp only[bf,reduceCtorEq,cC]at ht;split at ht
   .rename_i e;simp only[Key.m.injEq]at e;exact .inr e.symm
   .rw[AP]at ht;split at ht<;>simp at ht
 .intro O dL;rcases b8.1 dL with h|h
  .rcases b8.1 h with h|h
   .exact gw _ x O h
   .exact gw _ U O h
  .exact qA _ ids O h
 .intro k hk;simp only[gn,fe,b8]at hk;rcases hk with(h|h)|h
  .exact fC _<|fZ B [x,U] k wY
  .exact fC _<|fZ B [x,U] k wZ
  .exact jo _<|py B ids k h
 .have hd:∀ids:V I,oc (uB ids)=fv ids:=by
   intro ids;induction ids with
   |nil=>rfl
   |cons f r ih=>simp only[uB,oc,gZ,fv]at ih⊢;rw[ih]
  intro k hk;have:oc ((.s d,some<|.v<|.c<|.X l)::(.m l,some<|.b<|.vec E R<|xs++ys)::uB ids)= .s d:: .m l::fv ids:=by rw[<-hd ids];rfl
  rw[<-this];exact hk
def aij{g}{a}{k i}{d}{x R}{t1 t2 ty:eL}{pos}{U}{os}{v}{mem}{B}{F}{ks}{Q:St->Prop}(W:cN P tt=ae)
 {b}{E E2:eL} {f}{xs l}(hx:St.ev ⟨v,mem,B,F⟩ x=some (.c<|.X b)) (hl:w b mem=some (.vec E f xs))
  (hy:St.ev ⟨v,mem,B,F⟩ R=some (.c<|.S f l)) {ti p H}(ry:w t1 tt=some ti) (hk:ti.kind= .sl E) (r:w t2 tt=some p) (oe:p.kind= .sl E2) (s0:w E tt=some H) (qx:H.size=f.n) (Ky:G H.zero=f.n)
  (hb:((G xs+G l)+(G xs+G l)/4+192)*H.bytes<=281474976710656) (oM:(G xs+G l)*f.n<=140737488355328)
  (bW:RG P n g a k (i+1) os ⟨(d,.c<|.X<|1000000*k+1000*i)::v,(1000000*k+1000*i,.vec E f<|xs++l)::vG b mem,B,F⟩ (ff a ks (cH [x,R]++fv [b],[.s d,.m<|1000000*k+1000*i,.m b])) Q) (dC:f' d n=ae:=by rfl):
  RG P n g a k i (⟨some d,.call ⟨.builtin .append,#[x,R],#[t1,t2]⟩,ty,pos,U,none⟩::os) ⟨v,mem,B,F⟩ ks Q:=
 k7 (λC=>Xx W C J J (cY dC) J (.inl ⟨b,J,hx,hl⟩) hy ry hk r oe s0 qx Ky hb oM _) (jH bW)
def aik{b}{a}{f i}{d}{x H}{t1 t2 ty:eL}{pos}{R}{os}{r}{mem}{v}{B}{ks}{Q:St->Prop}(U:cN P tt=ae)
  {E E2:eL} {g}{k}(hx:St.ev ⟨r,mem,v,B⟩ x=some (.c<|.V<|.slice none 0 0))
  (hy:St.ev ⟨r,mem,v,B⟩ H=some (.c<|.S g k)) {ti l F}(W:w t1 tt=some ti) (hk:ti.kind= .sl E) (p:w t2 tt=some l) (oe:l.kind= .sl E2) (s0:w E tt=some F) (qx:F.size=g.n) (Ky:G F.zero=g.n)
  (hb:(G k+G k/4+192)*F.bytes<=281474976710656) (oM:G k*g.n<=140737488355328)
  (bW:RG P n b a f (i+1) os ⟨(d,.c<|.X<|1000000*f+1000*i)::r,(1000000*f+1000*i,.vec E g k)::mem,v,B⟩ (ff a ks (cH [x,H],[.s d,.m<|1000000*f+1000*i])) Q) (dC:f' d n=ae:=by rfl):
  RG P n b a f i (⟨some d,.call ⟨.builtin .append,#[x,H],#[t1,t2]⟩,ty,pos,R,none⟩::os) ⟨r,mem,v,B⟩ ks Q:=
 k7 (λC=>Xx (xs:=[]) (ids:=[]) U C J J (cY dC) J (.inr ⟨J,hx,J⟩) hy W hk p oe s0 qx Ky (by simpa using hb) Dc _) (jH<|by simpa[fv,AO]using bW)
end
def Kz(a:TT)(b:I):bF I:=match w b a with
 |some c=>(match c.kind with
  | .sl e=>(match w e a with|some d=>some d.size|none=>none)
  |_=>none)
 |none=>none
def Qi(a:TT)(b:I)(x i:AV):bF (AV×Pr):=match x,i with
 | .c (.L id off len _),.c (.I _ k)=>(match Kz a b with
  |some sz=>some (.c<|.P id<|off+ad k*sz,.and (.le 0 k)<|.lt k len)
  |none=>none)
 |_,_=>none
def xo(m:I):bF AV->I->bF (I×Pr)
 |none,d=>some (d,.t)
 |some (.c<|.I _ k),_=>some (ad k,.and (.le 0 k)<|.le k m)
 |_,_=>none
def Qj(f:TT)(g:I)(x:AV)(d a b:bF AV):bF (AV×Pr):=match x,Kz f g with
 | .c (.L id off len<|some c),some sz=>(match xo c b c with
  |some (m,p1)=>(match(if b.isSome&& !a.isSome then none else xo m a len)with
   |some (h,i)=>(match xo h d 0 with
    |some (l,k)=>some (.c<|.L id (if m=l then off else off+l*sz) (h-l)<|some<|m-l,.an p1<|.an i k)
    |none=>none)
   |none=>none)
  |none=>none)
 | .c (.L id off len none),some _=>(match d,b with
  |none,none=>(match xo len a len with
   |some (h,p)=>some (.c<|.L id off h none,p)
   |none=>none)
  |_,_=>none)
 | .c (.V<|.slice none 0 0),some _=>(match b,xo 0 a 0 with
  |none,some (h,p)=>(match xo h d 0 with
   |some (_,q)=>some (.c<|.V<|.slice none 0 0,.an p q)
   |none=>none)
  |_,_=>none)
 |_,_=>none
def Qk(a:TT)(b:I)(x:AV):bF AV:=match w b a with
 |some d=>(match d.kind with
  | .sl _=>(match x with
   | .c (.L _ _ len _)=>some<|.c<|.I .i64 len
   |_=>none)
  |_=>none)
 |none=>none
def XA(c x a:bF AV):bF (AV×Pr):=match c,x,a with
 |some (.c<|.B ae),some v,_=>some (v,.t)
 |some (.c<|.B ah),_,some v=>some (v,.t)
 |_,_,_=>none
def Gq(d:TT)(a:St):Op->bF (AV×Pr)
 | .pick c x g=>XA (a.ev c) (a.ev x)<|a.ev g
 | .indexAddr b x i=>(match a.ev x,a.ev i with|some v,some k=>Qi d b v k|_,_=>none)
 | .slice b x n p r=>(match a.ev x,yJ a n,yJ a p,yJ a r with|some v,some l,some B,some m=>Qj d b v l B m|_,_,_,_=>none)
 | .call ⟨.builtin .len,args,f⟩=>(match args.toList,f.toList with
  |[x],[b]=>(match a.ev x with|some v=>(match Qk d b v with|some E=>some (E,.t)|none=>none)|none=>none)
  |_,_=>none)
 |_=>none
section
variable{P:cT}{tt:TT}{g:Gh}{W:da}
def KA(b:cN P tt=ae){d n}(a:Kz tt d=some n):∃c i,P.underlying d=some (.slice c)/\P.info? c=some i/\i.size=n:=by
 refine CP b ?_;unfold Kz at a;unfold vC;split at a
 .rename_i r f;split at a
  .rename_i c k;split at a
   .rename_i l m;have p:l.size=n:=Di a;simp[f,k,m,p]
   .simp at a
  .simp at a
 .simp at a
def ail(m:cN P tt=ae){U}{x i n}{p}(a:Qi tt U x i=some (n,p))(hp:p){v r}(hv:bI g x v)(hu:bI g i r):(∃g6,(Instr.indexAt U v r).run P W= .ok g6 W/\bI g n g6)/\∀B∈n.ar,B∈x.ar:=by
 unfold Qi at a;split at a
 .rename_i B f l E X k;split at a
  .rename_i sz F;simp only[aR,cG]at a;obtain⟨rfl,rfl⟩:=a;let ⟨e,i,H,j,o⟩:=KA m F;have K:r= .int X k:=hu;subst K;have d:0<=k/\k<(l:Z):=hp;have Q:∃b c,cP (g.γ B)=some b/\v= .slice (some ⟨b,f,none⟩) l c:=by
    cases E with
    |some c=>let ⟨b,R,h2⟩:=hv;exact⟨b,c,R,h2⟩
    |none=>let ⟨q,b,c,R,h2,_⟩:=hv;subst q;exact⟨b,c,by rw[R];rfl,h2⟩
   obtain⟨b,c,s,rfl⟩:=Q;refine⟨⟨.pointer<|some ⟨b,f+ad k*sz,none⟩,?_,b,s,J⟩,sQ⟩;simp only[Instr.indexAt,asIntOf,dY,run_underlying H,eP];simp[d,run_sizeOf j,o,pv]
  .simp at a
 .simp at a
def xp{m}{x}{d c}{p}(a:xo m x d=some (c,p))(n:p){v}(f:yK g x v)(code:BoundsCode):
  (x=none/\v=none/\c=d)\/(∃b,x.isSome=ae/\v=some b/\c<=m/\(PL b m code).run P W= .ok c W):=by
 unfold xo at a
 split at a
 .simp only[aR,cG]at a;cases v with
  |none=>exact .inl ⟨J,J,a.1.symm⟩
  |some b=>exact f.elim
 .rename_i r k;simp only[aR,cG]at a;obtain⟨rfl,rfl⟩:=a;cases v with
  |none=>exact f.elim
  |some b=>
   have i:b= .int r k:=f
   subst i
   have l:0<=k/\k<=(m:Z):=n
   refine .inr ⟨_,J,J,S,?_⟩
   simp[PL,asIntOf,l,lU,pure]
 .simp at a
def aim(fc:cN P tt=ae){b9}{x dT}{lo hi mx}{p}(a:Qj tt b9 x lo hi mx=some (dT,p))(hp:p){v}{vl vh vm}(hv:bI g x v)
  (hl:yK g lo vl) (hh:yK g hi vh) (hm:yK g mx vm):
  (∃g6,(Ql b9 v vl vh vm).run P W= .ok g6 W/\bI g dT g6)/\∀id∈dT.ar,id∈x.ar:=by
 unfold Qj at a
 split at a
 .rename_i id A k c sz B;let ⟨e,i,E,F,O⟩:=KA fc B;split at a
  .rename_i m p1 H;split at a
   .rename_i f p2 r;split at a
    .rename_i l p3 D;simp only[aR,cG]at a;obtain⟨rfl,rfl⟩:=a;let ⟨G,T⟩:=Pr.CK hp;let ⟨K,I⟩:=Pr.CK T;obtain⟨b,qq,rfl⟩:=hv;have Q:¬(mx.isSome=ae/\hi.isSome=ah):=by intro V;rw[s (by simp[V.1,V.2])]at r;cases r
     have j:xo m hi k=some (f,p2):=by rw[M (by intro V;simp only[eG,C5]at V;exact Q V)]at r;exact r
     refine⟨⟨.slice (if m=l then some ⟨b,A,none⟩else some ⟨b,A+l*sz,none⟩) (f-l)<|m-l,?_,b,qq,?_⟩,sQ⟩
     .have R:(wT ae k c vl vh vm).run P W= .ok (l,f,m) W:=by
       unfold wT;rcases xp (P:=P) (W:=W) H G hm .slice3Acap with⟨Y,rfl,rfl⟩|⟨u1,Y,rfl,_,Z⟩
       .rcases xp (P:=P) (W:=W) j K hh .sliceAcap with⟨X,rfl,rfl⟩|⟨u2,X,rfl,_,L⟩
        .rcases xp (P:=P) (W:=W) D I hl .sliceB with⟨U,rfl,rfl⟩|⟨u3,U,rfl,_,KB⟩<;>simp[*]
        .rcases xp (P:=P) (W:=W) D I hl .sliceB with⟨U,rfl,rfl⟩|⟨u3,U,rfl,_,KB⟩<;>simp[*]
       .rcases xp (P:=P) (W:=W) j K hh .slice3B with⟨X,rfl,rfl⟩|⟨u2,X,rfl,_,L⟩
        .exact absurd ⟨Y,by simp[X]⟩ Q
        .rcases xp (P:=P) (W:=W) D I hl .slice3C with⟨U,rfl,rfl⟩|⟨u3,U,rfl,_,KB⟩<;>simp[*]
      simp only[Ql,dY,run_underlying E,eP,XB,R,run_sizeOf F,O];split<;>simp[pure,pv]
     .split<;>rfl
    .simp at a
   .simp at a
  .simp at a
 .rename_i id A k sz B;let ⟨e,i,E,F,O⟩:=KA fc B;split at a
  .split at a
   .rename_i f p1 H;simp only[aR,cG]at a;obtain⟨rfl,rfl⟩:=a;obtain⟨h0,b,c,hγ,rfl,hle⟩:=hv;subst h0;have xh:vl=none:=by cases vl with|none=>rfl|some _=>exact hl.elim
    have N:vm=none:=by cases vm with|none=>rfl|some _=>exact hm.elim
    subst xh N;have o:=PK (P:=P) (W:=W) (n:=k) (x:=hi) (d:=k) (h:=f) (p:=p1) (by rw[<-H];cases hi with|none=>rfl|some q=>cases q with|c q=>cases q<;>rfl|_=>rfl) hp hh c hle .sliceAcap;have w:f<=k:=by rcases o with⟨_,_,e⟩|⟨_,_,a,_⟩<;>omega
    refine⟨⟨.slice (some ⟨b,0,none⟩) f c,?_,J,b,c,hγ,J,S⟩,sQ⟩;have R:(wT ae k c none vh none).run P W= .ok (0,f,c) W:=by unfold wT;rcases o with⟨_,rfl,rfl⟩|⟨u,rfl,_,Z⟩<;>simp[*]
    simp only[Ql,dY,run_underlying E,eP,XB,R,run_sizeOf F,O];simp[pure,pv]
   .simp at a
  .simp at a
 .rename_i sz B;let ⟨e,i,E,F,O⟩:=KA fc B;split at a
  .rename_i f p1 H;split at a
   .rename_i l p2 r;simp only[aR,cG]at a;obtain⟨rfl,rfl⟩:=a;let ⟨G,K⟩:=Pr.CK hp;have Al:v= .slice none 0 0:=hv;subst Al;have N:vm=none:=by cases vm with|none=>rfl|some _=>exact hm.elim
    subst N;refine⟨⟨.slice none 0 0,?_,J⟩,sQ⟩;have R:(wT ae 0 0 vl vh none).run P W= .ok (0,0,0) W:=by
     unfold wT;rcases xp (P:=P) (W:=W) H G hh .sliceAcap with⟨_,rfl,rfl⟩|⟨u1,_,rfl,auO,Z⟩
     .rcases xp (P:=P) (W:=W) r K hl .sliceB with⟨_,rfl,rfl⟩|⟨u2,_,rfl,w,L⟩
      .simp[*]
      .have:l=0:=by omega
       subst this;simp[*]
     .have:f=0:=by omega
      subst this;rcases xp (P:=P) (W:=W) r K hl .sliceB with⟨_,rfl,rfl⟩|⟨u2,_,rfl,w,L⟩
      .simp[*]
      .have:l=0:=by omega
       subst this;simp[*]
    simp only[Ql,dY,run_underlying E,eP,XB,R,run_sizeOf F,O];simp[pure]
   .simp at a
  .simp at a
 .simp at a
def ain(f:cN P tt=ae){B r:I}{x i:AV}(d:Qk tt B x=some i){v:bH}(E:bI g x v):(Builtin.len_ #[B] r #[v]).run P W= .ok (match i with| .c (.I k n)=> .int k n|_=>undef) W/\(∃n:Z,i= .c (.I .i64 n)):=by
 unfold Qk at d;split at d
 .rename_i Q C;split at d
  .rename_i e F;split at d
   .rename_i R H l m _;simp only[aR]at d;subst d;have h2:=(g5 f C).kind;rw[F]at h2;have p:∃a c,v= .slice a l c:=by
     cases m with
     |some c=>let ⟨b,K,h2⟩:=E;exact⟨_,c,h2⟩
     |none=>let ⟨U,b,c,K,h2,_⟩:=E;exact⟨_,c,h2⟩
    obtain⟨a,c,rfl⟩:=p;exact⟨JV,_,J⟩
   .simp at d
  .simp at d
 .simp at d
def aio(fc:cN P tt=ae){ops}{i}{R:dv}{d:I}(ho:ops[i]? =some R)(hg:R.guard=none)(hd:R.dst=some d){n}(dC:d<n)
 {U}{x}{p}(b:Gq tt U R.op=some (x,p)) (hp:p) new:ml P n ops i (qu U R.op) [(.s d,some<|.v x)] new:=by
 refine uu ho hg hd dC _ x new ?_
 intro F j σ g W a k T
 have E:∀y∈R.op.operands,∀O∈dO U y,σ O.1=some O.2:=by intro y X O V;exact T O<|jF.2 ⟨y,by simpa using X,V⟩
 have f:∀y∈R.op.operands,∀u,U.ev y=some u->bI g u (a.eval y)/\∀A∈u.ar,j A:=by intro y X u S;exact⟨gO k U y u S<|E y X,uq k U y u S<|E y X⟩
 generalize K:R.op=op at b f E
 unfold Gq at b
 split at b
 .rename_i c y z;unfold XA at b;split at b
  .rename_i v Y X;simp only[aR,cG]at b;obtain⟨rfl,rfl⟩:=b;have Z:a.eval c= .bool ae:=(f c iK _ Y).1;have H:=f y iK _ X;exact⟨H.2,_,by simp[execOp,K,Z,asBool,lU,pure],H.1⟩
  .rename_i v Y X;simp only[aR,cG]at b;obtain⟨rfl,rfl⟩:=b;have Z:a.eval c= .bool ah:=(f c iK _ Y).1;have H:=f z iK _ X;exact⟨H.2,_,by simp[execOp,K,Z,asBool,lU,pure],H.1⟩
  .simp at b
 .rename_i t y z;split at b
  .rename_i v w L hw;have H:=f y iK _ L;have h2:=f z iK _ hw;let ⟨⟨u,B,Q⟩,M⟩:=ail (P:=P) (W:=W) fc b hp H.1 h2.1;exact⟨λA D=>H.2 A<|M A D,u,by simp[execOp,K,B,lU,pure],Q⟩
  .simp at b
 .rename_i t y lo hi mx;split at b
  .rename_i v l h m L hl hh M;have H:=f y iK _ L;have h2:=FM k U lo l hl<|λq hq=>E q FN;have h3:=FM k U hi h hh<|λq hq=>E q FN;have h4:=FM k U mx m M<|λq hq=>E q FN;let ⟨⟨u,B,Q⟩,M⟩:=aim (P:=P) (W:=W) fc b hp H.1 h2 h3 h4;exact⟨λA D=>H.2 A<|M A D,u,by simp[execOp,K,B,lU,pure],Q⟩
  .simp at b
 .rename_i args lV;split at b
  .rename_i y t ha ht;have G:args= #[y]:=FO;have N:lV= #[t]:=PN;subst G N;split at b
   .rename_i v L;split at b
    .rename_i u S;simp only[aR,cG]at b;obtain⟨rfl,rfl⟩:=b;have H:=f y CQ _ L;obtain⟨B,n',rfl⟩:=ain (P:=P) (W:=W) (r:=R.type) fc S H.1;exact⟨sQ,.int .i64 n',Kx K (λcs=>by have e:(#[y]:Array rB).map a.eval= #[a.eval y]:=ax;rw[e];simp only[Go.builtin,dY,B,eP];rfl),J⟩
    .simp at b
   .simp at b
  .simp at b
 .simp at b
end
section
variable{P:cT}{tt:TT}
def aip{ops}{i}{br:dv}{d:I}(ho:ops[i]? =some br)(hg:br.guard=none)(hd:br.dst=some d){n}(dC:d<n){E}rd cs sz len x(p:I)
  (bW:∀(F:eF)(f:I->Prop)(σ:Kn)(g:Gh)(W:da)(a:Act),bu F f σ g W a->(∀kx∈rd,σ kx.1=some kx.2)->
   (∀B∈cy cs,f B)/\∃(vs rest:V bH)(l:I)(W1:da),bL g cs vs/\(execOp a.eval br).run P W= .ok (.value<|.slice (some ⟨W.heap.size,0,none⟩) len l) {W1 with heap:=W.heap.push<|.cells (vs++rest).toArray E (0,0)}/\
    W1.os=W.os/\W1.tape=W.tape/\W1.output=W.output/\(∀c,x=some c->l=c)/\(sz≠0->G (vs++rest)=l*sz)/\len<=l):
  ml P n ops i rd [(.s d,some<|.v<|.c<|.L p 0 len x),(.m p,some<|.b<|.box E sz cs)] p:=by
 intro F nF Q f σ g W a K X bC O Y
 let ⟨hm,vs,rest,l,W1,Z,q,e1,e2,e3,w,z,hlen⟩:=bW F f σ g W a bC O
 unfold wpOp
 simp only[ho,nG,hg,cA]
 refine .inl ?_
 unfold uk
 rw[q]
 simp only[sL,hd]
 have S:d<a.tmps.size:=pq
 let j:Gh:=⟨g.H,λB=>if B=p then .slice (some ⟨W.heap.size,0,none⟩) 0 l else g.γ B⟩
 have R:j.γ p= .slice (some ⟨W.heap.size,0,none⟩) 0 l:=by simp[j]
 have A:iT f g j:=⟨cz.refl _,λB r=>by
  have:B≠p:=λe=>X<|e▸r
  simp[j,this]⟩
 have U:∀br,g.H W.heap.size br=none:=by
  intro br;cases hv:g.H W.heap.size br with
  |none=>rfl
  |some v=>
   have:=FZ W _<|bC.sub _ _ _ hv
   simp at this
 have D:Sub g.H {W1 with heap:=W.heap.push<|.cells (vs++rest).toArray E (0,0)}:=by have:=FY bC.sub<|.cells (vs++rest).toArray E (0,0);exact this
 refine Y j _ _<|bC.step (chg:=λ_=>False) (g':=j) ⟨A,λ_ _ _=>rfl,D,ax,λk N _=>FX W _ k N,e1,e2,e3⟩ _ p X qt bC.defers ?_ (λ_ bW=>bW.elim) ?_ ?_ ?_ ?_
 .intro t ht;have T:d≠t:=rz;simp[jq,nf T]
 .intro t u ht;simp only[bf]at ht;split at ht
  .rename_i e;simp only[Key.s.injEq]at e;simp only[aR,Info.v.injEq]at ht;subst e;subst ht;have M:(a.put (some d)<|.slice (some ⟨W.heap.size,0,none⟩) len l).tmps.getD d undef= .slice (some ⟨W.heap.size,0,none⟩) len l:=by simp[jq,S]
   show dn j _ _;rw[M];cases x with
   |some c=>have:=w c J;subst this;exact⟨W.heap.size,by rw[R];rfl,J⟩
   |none=>exact⟨J,W.heap.size,l,R,J,hlen⟩
  .split at ht
   .simp at ht
   .simp at ht
 .intro B b ht;simp only[bf,reduceCtorEq,cC]at ht;split at ht
  .rename_i e;simp only[Key.m.injEq]at e;subst e;simp only[aR,Info.b.injEq]at ht;subst ht;refine⟨⟨W.heap.size,vs,rest,by rw[R];rfl,ax,bL.mono A hm Z,.inl bC.below.size,U,λh0=>⟨l,R,z h0⟩⟩,.inr ⟨J,λk N=> .inl ?_⟩⟩;rw[R]at N;simp only[cP,aR]at N;omega
  .simp at ht
 .intro k y ht;simp only[bf]at ht;split at ht
  .simp only[aR]at ht;subst ht;intro B r;simp[Info.ar,AV.ar,C.ar]at r;exact .inr r
  .split at ht
   .simp only[aR]at ht;subst ht;exact λB r=> .inl<|hm B r
   .simp at ht
 .intro B y ht;simp only[bf,reduceCtorEq,cC]at ht;split at ht
  .rename_i e;simp only[Key.m.injEq]at e;exact .inr e.symm
  .simp at ht
def aiq(H:cN P tt=ae){Q}{i}{R:dv}{d:I}(ho:Q[i]? =some R)(hg:R.guard=none)(hd:R.dst=some d){n}(dC:d<n){b9}{x dT}(dZ:R.op= .makeSlice b9 x dT)
 {U}{m:I} {k k2}(hx:U.ev x=some (.c<|.I k (m:Z))) (hy:U.ev dT=some (.c<|.I k2 (m:Z))) {E}{ti f:TI} (ry:w b9 tt=some ti) (hk:ti.kind= .sl E) (s0:w E tt=some f) (ah2:0<f.size) (hb:m*f.bytes<=16777216) (oM:m<=16777216) (p:I):
  ml P n Q i (qu U R.op) [(.s d,some<|.v<|.c<|.L p 0 m<|some m),(.m p,some<|.b<|.box E 0<|xl (f.zero.map ZV.ru) m)] p:=by
 refine aip ho hg hd dC _ _ _ _ _ p ?_
 intro F A Y g W a B K
 have T:a.eval x= .int k (m:Z):=gO B U x _ hx<|λD dL=>K D P4
 have G:a.eval dT= .int k2 (m:Z):=gO B U dT _ hy<|λD dL=>K D P4
 have O:=(g5 H ry).kind
 rw[hk]at O
 let ⟨inf,X,h,j,z,M,Az⟩:=(g5 H s0).info
 have C:(f.zero.map ZV.gq).length=f.size:=by simpa using(g5 H s0).Py
 have q:z.cells=(f.zero.map ZV.gq).toArray:=F6
 have u:(f.zero.map ZV.gq)≠[]:=by intro e;rw[e]at C;simp at C;omega
 have N:(inf.bytes:Z)*(m:Z)<=281474976710656:=by
  rw[j];have:(f.bytes:Z)*(m:Z)=((m*f.bytes:I):Z):=by rw[fR];simp
  rw[this];omega
 have l:=run_make (P:=P) W b9 E inf z O X M k k2 m m S S N S
 refine⟨by rw[Qa (J8 _)];simp,(bh m<|f.zero.map ZV.gq).flatten,[],m,W,P' (CZ g f.zero) m,?_,J,J,J,λc V=>Di V,ax,a8 _⟩
 rw[execOp,dZ]
 have r:madeCells z.cells (m*inf.size)=((bh m<|f.zero.map ZV.gq).flatten).toArray:=by rw[h,q,<-C,<-P3 _ m u];rfl
 simp only[aV]at l
 rw[r]at l
 simp only[T,G,dY,l,eP,iW]
 rfl
end
def KC(d:St)(sz:I):AV->bF (I×V C×V I)
 | .c (.L id off len _)=>(match w id d.mem with
  |some (.box _ _ cs)=>if off+len*sz<=G cs then some (len,(aE off cs).take<|len*sz,[id])else none
  |some (.fz _ cs)=>if off+len*sz<=G cs then some (len,(aE off cs).take<|len*sz,[id])else none
  |_=>none)
 | .c (.S a b)=>if a.n=sz then some (G b,b.flatMap<|av a,[])else none
 | .c (.V<|.slice none 0 0)=>some (0,[],[])
 |_=>none
section
variable{P:cT}{tt:TT}
def Qm{a}(b:oI a=ae):a.oneCell'=ae:=by revert b;cases a<;>simp[oI,Value.oneCell']
def XC{b:ET}:∀(d:V b.den),∀c∈d.flatMap (av b),qy c=ae
 |[],c,a=>by simp at a
 |f::d,c,a=>by
  simp only[mm,b8]at a;rcases a with a|a
  .exact C1 b f c a
  .exact XC d c a
def XD{d:ET}:∀(c:V d.den),cy (c.flatMap<|av d)=[]
 |[]=>rfl
 |g::c=>by
  refine List.eq_nil_iff_forall_not_mem.2 λf a=>?_
  rw[mm]at a;rcases J1 _ _ f a with b|b
  .rw[FU]at b;cases b
  .rw[XD c]at b;cases b
def XE{g:Gh}(a:ET):∀(xs:V a.den)(vs:V bH),G vs=G xs*a.n->(∀i(b:i<G xs),dk g.H a xs[i] ((aE (i*a.n) vs).take a.n))->bL g (xs.flatMap<|av a) vs
 |[],vs,hl,_=>by have:vs=[]:=et wU;subst this;rfl
 |x::xs,vs,hl,b=>by rw[mm];have c:=b 0 ax;simp only[vQ,rI,vE]at c;have:=bL.append (Cv (g:=g) a x _ c) (XE a xs (aE a.n vs) (by simp at hl⊢;rw[hl,g7];omega)<|λi hi=>by have:=b (i+1) yZ;simp only[CR]at this;rw[vK];rw[(JX:a.n+i*a.n=(i+1)*a.n)];exact this);rwa[ri]at this
def XF{F}{x:I->Prop}{σ}{g}{W}{a}(i:bu F x σ g W a){st}{y}{sz m}{cs}{ids}(k:KC st sz y=some (m,cs,ids)){v}(hv:bI g y v)
  (kX:∀id∈ids,∀b,w id st.mem=some b->σ (.m id)=some (.b b)) {b9 bZ}(hu:P.underlying b9=some (.slice bZ)) (PV:cs.all qy=ae):
  ∃U:V bH,Src P sz b9 v m U W/\bL g cs U/\(∀id∈cy cs,x id)/\∀B∈U,oI B=ae:=by
 have p:∀U,bL g cs U->∀B∈U,oI B=ae:=λU X=>X.one<|λc hc=>rv.1 PV c hc
 unfold KC at k
 split at k
 .rename_i id d f o;split at k
  .rename_i E bz q N;split at k
   .rename_i L;simp only[aR,cG]at k;obtain⟨rfl,rfl,rfl⟩:=k;have C:=kX id ax _ N;let ⟨b,vs,rest,l,hh,X,hN,hz,Gs⟩:=i.db id _ C;have H:∃c,v= .slice (some ⟨b,d,none⟩) f c:=by
     cases o with
     |some c=>
      let ⟨O,r,h2⟩:=hv
      rw[l]at r
      cases r
      exact⟨c,h2⟩
     |none=>
      let ⟨S,O,c,r,h2,_⟩:=hv
      rw[r]at l
      simp only[cP,aR]at l
      subst l S
      exact⟨c,h2⟩
    obtain⟨c,rfl⟩:=H;have n:bL g ((aE d q).take<|f*sz) ((aE d vs).take<|f*sz):=(X.drop d).take _;have Y:=X.length;have K:G ((aE d vs).take<|f*sz)=f*sz:=bP;refine⟨_,Src.ofSlice W hu ⟨b,d,none⟩ f c _ K ?_<|λB s=>Qm<|p _ n B s,n,?_,p _ n⟩
    .intro j B Z;let ⟨z,Q⟩:=uv.1 Z;simp only[sT,uw]at Q;have A:d+j<G vs:=by rw[K]at z;omega
     simp only[pv];rw[sU hh (d+j) bP,wW A,Q]
    .intro D R;exact i.ar _ _ C D<|JQ _ _ _<|JR _ _ _ R
   .simp at k
  .rename_i E q N;split at k
   .rename_i L;simp only[aR,cG]at k;obtain⟨rfl,rfl,rfl⟩:=k;have C:=kX id ax _ N;let ⟨b,vs,rest,l,hh,X,hN,hz⟩:=i.db id _ C;have H:∃c,v= .slice (some ⟨b,d,none⟩) f c:=by
     cases o with
     |some c=>
      let ⟨O,r,h2⟩:=hv
      rw[l]at r
      cases r
      exact⟨c,h2⟩
     |none=>
      let ⟨S,O,c,r,h2,_⟩:=hv
      rw[r]at l
      simp only[cP,aR]at l
      subst l S
      exact⟨c,h2⟩
    obtain⟨c,rfl⟩:=H;have n:bL g ((aE d q).take<|f*sz) ((aE d vs).take<|f*sz):=(X.drop d).take _;have Y:=X.length;have K:G ((aE d vs).take<|f*sz)=f*sz:=bP;refine⟨_,Src.ofSlice W hu ⟨b,d,none⟩ f c _ K ?_<|λB s=>Qm<|p _ n B s,n,?_,p _ n⟩
    .intro j B Z;let ⟨z,Q⟩:=uv.1 Z;simp only[sT,uw]at Q;have A:d+j<G vs:=by rw[K]at z;omega
     simp only[pv];rw[sU hh (d+j) bP,wW A,Q]
    .intro D R;exact i.ar _ _ C D<|JQ _ _ _<|JR _ _ _ R
   .simp at k
  .simp at k
 .rename_i T ys;split at k
  .rename_i hT;simp only[aR,cG]at k;obtain⟨rfl,rfl,rfl⟩:=k;subst hT;let ⟨U,r,h2,h3,h4⟩:=Xq (P:=P) hv;have M:∀w':da,(Xr v).run P w'= .ok (G ys) w':=by obtain⟨a,o,rfl,_⟩:=hv;intro w';rfl
   exact⟨U,⟨.inl ⟨_,hu⟩,M,r W i.sub,r W.drew i.sub,h2,λB hu=>Qm<|h4 B hu⟩,XE T ys U h2 h3,by rw[XD];simp,h4⟩
  .simp at k
 .simp only[aR,cG]at k;obtain⟨rfl,rfl,rfl⟩:=k;have H:v= .slice none 0 0:=hv;subst H;exact⟨[],Src.ofNil W hu 0,J,by simp[cy],ax⟩
 .simp at k
end
section
variable{P:cT}{tt:TT}
structure air(P:cT)(b t2 E:eL)(sz:I)(bytes:I):Prop where
 u1:P.underlying b=some (.slice E)
 u2:∃e,P.underlying t2=some (.slice e)
 info:∃a z,P.info? E=some a/\a.size=sz/\a.bytes=bytes/\a.zero=some z/\z.cells.size=sz
 pos:0<sz
def XG{st}{ids}{σ:Kn}(f:∀d∈k5 st ids,σ d.1=some d.2):∀a∈ids,∀b,w a st.mem=some b->σ (.m a)=some (.b b):=by intro a c b g;exact f (.m a,.b b)<|jF.2 ⟨a,c,by simp[g]⟩
end
section
variable{P:cT}{tt:TT}
def ais{a:Act}{d b}{v}{f:V (Key×bF Info)}{x}(ht:bf ((.s d,x)::f) (.s b)=none):(a.put (some d) v).tmps.getD b undef=a.tmps.getD b undef:=by have c:d≠b:=rz;simp[jq,nf c]
end
section
variable{P:cT}{tt:TT}
def qC(a:St):V rB->bF (V<|Bool×V C)
 |[]=>some []
 |x::xs=>(match a.ev x with
  |some v=>(match vM v,qC a xs with
   |some b,some r=>some<|b::r
   |_,_=>none)
  |none=>none)
def ait{v}{d}(b:vM v=some d):cy d.2=v.ar:=by
 cases v with
 |c x=>simp only[vM,aR]at b;subst b;simp[cy,AV.ar]
 |a cs=>simp only[vM,aR]at b;subst b;rfl
 |t _=>simp[vM]at b
def Gt{F:eF}{c:I->Prop}{E:Kn}{g:Gh}{W:da}{a:Act}(l:bu F c E g W a)(f:St):∀(xs:V rB)(i:V (Bool×V C)),qC f xs=some i->
  (∀d∈xs.flatMap (dO f),E d.1=some d.2)->dt g i (xs.map a.eval)/\∀k∈fN i,c k
 |[],i,he,_=>by simp only[qC,aR]at he;subst he;exact⟨J,by simp[fN]⟩
 |x::xs,i,he,m=>by
  simp only[qC]at he;split at he
  .rename_i v H;split at he
   .rename_i U r Q n;simp only[aR]at he;subst he;have R:=gO l f x v H<|λd dL=>m d jt;have p:=uq l f x v H<|λd dL=>m d jt;let ⟨h2,B⟩:=Gt l f xs r n (λd dL=>m d<|by simp only[mm,b8];exact .inr dL);refine⟨⟨_,_,J,Xf Q R,h2⟩,?_⟩;intro k b;simp only[fN,b8]at b;rcases b with b|b
    .rw[ait Q]at b;exact p k b
    .exact B k b
   .simp at he
  .simp at he
def aiu{ops}{i}{br:dv}{d:I}(ho:ops[i]? =some br)(hg:br.guard=none)(hd:br.dst=some d){n}(dC:d<n){f}{first p}(dZ:br.op= .makeFunc (.func f) first p)
 {st}{fs cs}(hf:qC st first.toList=some fs) (hc:qC st p.toList=some cs) new:
  ml P n ops i ((first.toList++p.toList).flatMap<|dO st) [(.s d,some<|.v<|.c<|.X new),(.m new,some<|.b<|.fX f fs cs)] new:=by
 intro F nF Q R Y g W a K E bC w S
 let ⟨G,z⟩:=Gt bC st _ _ hf (λL U=>w L<|by rw[uC];exact fC _ U)
 let ⟨M,A⟩:=Gt bC st _ _ hc (λL U=>w L<|by rw[uC];exact jo _ U)
 have N:(execOp a.eval br).run P W= .ok (.value<|.func (.func f) (first.toList.map a.eval).toArray (p.toList.map a.eval).toArray) W:=by rw[execOp,dZ];have T:first.map a.eval=(first.toList.map a.eval).toArray:=uy;have V:p.map a.eval=(p.toList.map a.eval).toArray:=uy;simp only[Instr.makeFunc,T,V];rfl
 unfold wpOp
 simp only[ho,nG,hg,cA]
 refine .inl ?_
 unfold uk
 rw[N]
 simp only[sL,hd]
 have D:d<a.tmps.size:=pq
 let v:bH:= .func (.func f) (first.toList.map a.eval).toArray (p.toList.map a.eval).toArray
 let j:Gh:=⟨g.H,λB=>if B=new then v else g.γ B⟩
 have q:j.γ new=v:=by simp[j]
 have x:iT R g j:=⟨cz.refl _,λB r=>by
  have:B≠new:=λe=>E<|e▸r
  simp[j,this]⟩
 refine S j _ _<|bC.step (chg:=λ_=>False) (g':=j) ⟨x,λ_ _ _=>rfl,bC.sub,a8 _,λ_ _ _=>rfl,J,J,J⟩ _ new E qt bC.defers (λt l=>ais l) (λ_ h=>h.elim) ?_ ?_ ?_ ?_
 .intro t u l;simp only[bf]at l;split at l
  .rename_i e;simp only[Key.s.injEq]at e;simp only[aR,Info.v.injEq]at l;subst e;subst l;show _=j.γ new;rw[q];simp[jq,D,v]
  .simp at l
 .intro B b l;simp only[bf,reduceCtorEq,cC]at l;split at l
  .rename_i e;simp only[Key.m.injEq]at e;subst e;simp only[aR,Info.b.injEq]at l;subst l;refine⟨⟨_,_,q,dt.mono x z G,dt.mono x A M⟩,.inr ⟨J,λk O=>?_⟩⟩;rw[q]at O;simp[cP,v]at O
  .simp at l
 .intro k y l;simp only[bf]at l;split at l
  .simp only[aR]at l;subst l;intro B r;simp[Info.ar,AV.ar,C.ar]at r;exact .inr r
  .split at l
   .simp only[aR]at l;subst l;intro B r;rcases b8.1 r with h|h
    .exact .inl<|z B h
    .exact .inl<|A B h
   .simp at l
 .intro B y l;simp only[bf,reduceCtorEq,cC]at l;split at l
  .rename_i e;simp only[Key.m.injEq]at e;exact .inr e.symm
  .simp at l
end
def AS(a:V bH):Act:={tmps:=a.toArray,defers:=[]}
structure CX(P:cT)(f:FuncId)(vs:V AV)(fm:V (I×aH))(k:I)(r:AV)(a:V (I×aH))(c:I):Prop where
 call:oJ P f=ae
 le:k<=c
 spec:∀(F:eF)(g:Gh)(W:da)(b:V bH),F.n=vs.length->b.length=vs.length->bu F (·<k) (St.kn ⟨k8 0 vs,fm,0,[]⟩) g W (AS b)->
  Calls P f b.toArray W (λe d=>∃v i,e= .returned v/\bu {F with n:=1} (·<c) (St.kn ⟨[(0,r)],a,0,[]⟩) i d (AS [v]))
def y5(a:V (I×aH)):V (I×aH)->V (Key×bF Info)
 |[]=>[]
 | (id,_)::r=>(.m id,(w id a).map .b)::y5 a r
def s6(k:I):V (I×aH)->V (Key×bF Info)
 |[]=>[]
 | (id,b)::r=>if k<=id then(.m id,some<|.b b)::s6 k r else s6 k r
def Qn{a v:V (Key×bF Info)}{k:Key}:bf (a++v) k=match bf a k with|some x=>some x|none=>bf v k:=by
 induction a with
 |nil=>rfl
 |cons p a b=>
  let ⟨c,x⟩:=p
  simp only[kU,bf]
  split
  .rfl
  .exact b
def Qo(a:V (I×aH))(c:I):∀d,bf (y5 a d) (.s c)=none
 |[]=>rfl
 | (id,b)::r=>by simp[y5,bf,Qo a c r]
def Gu(k:I)(a:I):∀c,bf (s6 k c) (.s a)=none
 |[]=>rfl
 | (id,b)::r=>by
  simp only[s6];split
  .simp[bf,Gu k a r]
  .exact Gu k a r
def XH(a:V (I×aH))(c:I):∀d:V (I×aH),bf (y5 a d) (.m c)=if(w c d).isSome then some ((w c a).map .b)else none
 |[]=>rfl
 | (id,b)::r=>by
  simp only[y5,bf,w,Key.m.injEq];by_cases f:id=c
  .simp[f]
  .simp only[f,cC];exact XH a c r
def Gv(k a:I):∀f:V (I×aH),bf (s6 k f) (.m a)=if k<=a then(w a f).map (λb=>some<|.b b)else none
 |[]=>by simp[s6,bf,w]
 | (id,b)::r=>by
  simp only[s6,w];by_cases d:k<=id
  .simp only[d,cA,bf,Key.m.injEq];by_cases c:id=a
   .subst c;simp[d]
   .simp only[c,cC];exact Gv k a r
  .simp only[d,cC];by_cases c:id=a
   .subst c;rw[Gv k id r];simp[d]
   .simp only[c,cC];exact Gv k a r
def jn.Dj{Q P:I->Prop}{g m}{W}{c}{b}(n:jn Q g W c b)(v:∀k,cP (g.γ c)=some k->P k)(hγ:m.γ c=g.γ c)(p:m.H=g.H)(r:iT (λd=>d∈b.ar) g m):jn P m W c b:=by
 cases b with
 |box E sz cs=>
  let ⟨b,vs,rest,e,i,x,K,l,hc⟩:=n
  exact⟨b,vs,rest,vR,i,bL.mono r (λd a=>a) x,v b e,by rw[p];exact l,by rw[hγ];exact hc⟩
 |vec E T xs=>
  rcases n with⟨e,R⟩|⟨b,B,vs,e,i,C,F,U,X,K,l⟩
  .exact .inl ⟨vR,R⟩
  .exact .inr ⟨b,B,vs,vR,i,C,F,U,by rw[p];exact X,v b sK,by rw[p];exact l⟩
 |fX f first caps=>
  let ⟨us,ws,e,C,F⟩:=n
  exact⟨us,ws,vR,dt.mono r (λd a=>fC _ a) C,dt.mono r (λd a=>jo _ a) F⟩
 |fz E cs=>
  let ⟨b,vs,rest,e,i,x,K,l⟩:=n
  exact⟨b,vs,rest,vR,i,bL.mono r (λd a=>a) x,v b e,by rw[p];exact l⟩
def jn.Dk{a:I->Prop}{lX:I->Prop}{g F}{W W'}{l}{b}(x:jn lX g W l b)(m:iT a g F)(P:a l)(B:∀p∈b.ar,a p)
  (n:∀k,cP (g.γ l)=some k->W'.heap[k]? =W.heap[k]? /\∀c,F.H k c=g.H k c):jn lX F W' l b:=by
 have hγ:=m.γ l P
 cases b with
 |box E sz cs=>
  let ⟨b,vs,rest,e,d,C,r,v,hc⟩:=x
  exact⟨b,vs,rest,vR,by rw[(n b e).1];exact d,bL.mono m B C,r,λc=>by rw[(n b e).2];exact v c,by rw[hγ];exact hc⟩
 |vec E T xs=>
  rcases x with⟨e,K⟩|⟨b,Q,vs,e,K,d,R,q,s,r,v⟩
  .exact .inl ⟨vR,K⟩
  .have X:cP (g.γ l)=some b:=by rw[e];rfl
   exact .inr ⟨b,Q,vs,vR,by rw[(n b X).1];exact K,d,R,q,λi t=>dk.mono m.H T _ _<|s i t,r,λc=>by rw[(n b X).2];exact v c⟩
 |fX f first caps=>
  let ⟨us,ws,e,d,R⟩:=x
  exact⟨us,ws,vR,dt.mono m (λp U=>B p<|fC _ U) d,dt.mono m (λp U=>B p<|jo _ U) R⟩
 |fz E cs=>
  let ⟨b,vs,rest,e,d,C,r,v⟩:=x
  exact⟨b,vs,rest,vR,by rw[(n b e).1];exact d,bL.mono m B C,r,λc=>by rw[(n b e).2];exact v c⟩
section
variable{P:cT}{tt:TT}
def aiv{f}{vs}{fm U}{k k'}{r}(hf:CX P f vs fm k r U k')(hmv:∀c∈fE vs,c<k)(KD:∀c b,w c fm=some b->c<k/\∀p∈b.ar,p<k)(Gw:∀c∈r.ar,k<=c\/∃b,w c fm=some b)
  (oP:∀c b,w c U=some b->w c fm=some b\/∀p∈b.ar,k<=p\/∃b,w p fm=some b)
 {Fc}{R:I->Prop} {σ}{g}{W}{a}(l:bu Fc R σ g W a) (FD:∀c,(k<=c/\c<k')->¬R c) {us}(Dm:ju g vs us) (hkv:∀c∈fE vs,R c)
  (kX:∀c b,w c fm=some b->σ (.m c)=some (.b b)) {d}(hd:d<a.tmps.size):
  Calls P f us.toArray W (λbZ W'=>∃v g',bZ= .returned v/\bu Fc (λc=>R c\/(k<=c/\c<k')) (dB σ<|(.s d,some<|.v r)::(y5 U fm++s6 k U)) g' W' (a.put (some d) v)):=by
 have xq:=yS Dm
 let F:eF:={w0:=W,H0:=g.H,n:=G vs,own:=λb=>∃c bb,w c fm=some bb/\cP (g.γ c)=some b,k0:=k,γ0:=g.γ}
 have hN:∀b,F.N b->b<W.heap.size->Fc.N b:=by
  intro b K iD;rcases K with K|⟨c,bb,X,h2⟩
  .exact absurd K (S:¬W.heap.size<=b)
  .exact((l.db c bb<|kX c bb X).block h2).1
 have hN':∀b,F.N b->Fc.N b:=by
  intro b K;rcases K with K|⟨c,bb,X,h2⟩
  .exact .inl<|cQ l.below.size K
  .exact((l.db c bb<|kX c bb X).block h2).1
 have h0:bu F (·<k) (St.kn ⟨k8 0 vs,fm,0,[]⟩) g W (AS us):=by
  refine⟨by simp[AS,F,xq],J,?_,?_,?_,?_,?_,l.sub,⟨J,J,J,a8 _,λ_ _ _=>rfl⟩,cz.refl _,λ_ _ _ _=>rfl,λc B=>⟨B,J⟩⟩
  .intro t v ht;simp only[St.kn,cd]at ht;let ⟨x,C,he⟩:=ht;cases he;let ⟨_,u,hu,hr,_⟩:=oL vs us 0 Dm t v C;have JK:us[t]? =some u:=AH;simp only[AS,ux,FI,JK,Aj];exact hr
  .intro c b K;simp only[St.kn,cd]at K;let ⟨x,C,he⟩:=K;cases he;exact(l.db c b<|kX c b C).Dj (λE pz=> .inr ⟨c,b,C,pz⟩) J J ⟨cz.refl _,λ_ _=>rfl⟩
  .intro c Dh b b' E K vA X h2;simp only[St.kn,cd]at K vA;let ⟨x,C,he⟩:=K;let ⟨x',hx',he'⟩:=vA;cases he;cases he';exact l.inj c Dh b b' E (kX c b C) (kX Dh b' hx') X h2
  .intro key x C c B;cases key with
   |s t=>
    simp only[St.kn,cd]at C
    let ⟨y,hy,he⟩:=C
    subst he
    let ⟨_,_,_,_,h6⟩:=oL vs us 0 Dm t y hy
    exact hmv c<|h6 c B
   |m p=>
    simp only[St.kn,cd]at C
    let ⟨y,hy,he⟩:=C
    subst he
    exact(KD p y hy).2 c B
  .intro c x C;simp only[St.kn,cd]at C;let ⟨y,hy,he⟩:=C;exact(KD c y hy).1
 refine(hf.spec F g W us J xq h0).mono ?_
 rintro bZ W' ⟨v,g',rfl,X⟩
 refine⟨v,⟨g'.H,λc=>if k<=c/\c<k' then g'.γ c else g.γ c⟩,J,?_⟩
 generalize Qp:(⟨g'.H,λc=>if k<=c/\c<k' then g'.γ c else g.γ c⟩:Gh)=g2
 have Z:g2.H=g'.H:=by rw[<-Qp]
 have XI:∀c,g2.γ c=if k<=c/\c<k' then g'.γ c else g.γ c:=by rw[<-Qp];intro c;rfl
 have D:∀c,c<k'->g2.γ c=g'.γ c:=by
  intro c B;rw[XI];split
  .rfl
  .rename_i hn;exact(X.iJ c (S:c<k)).2.symm
 have Qq:iT (·<k') g' g2:=⟨by rw[Z];exact cz.refl _,λc B=>D c B⟩
 have Q:iT R g g2:=⟨by rw[Z];exact X.le,λc B=>by rw[XI,M];intro hc;exact FD c hc B⟩
 have XJ:∀c b,w c fm=some b->R c:=λc b K=>l.fD _ _<|kX c b K
 have XK:∀c,(k<=c\/∃b,w c fm=some b)->c<k'->R c\/(k<=c/\c<k'):=by
  intro c h h2;rcases h with h|⟨b,K⟩
  .exact .inr ⟨h,h2⟩
  .exact .inl<|XJ c b K
 have XL:∀c∈r.ar,c<k':=λc B=>X.ar (.s 0) (.v r) (by simp[St.kn,w]) c B
 have z:∀E,E<W.heap.size->¬F.own E->W'.heap[E]? =W.heap[E]? /\∀o,g'.H E o=g.H E o:=λE T A=>⟨X.below.block E T A,λo=>X.fresh E o T A⟩
 have Qr:∀p,bf ((.s d,some<|.v r)::(y5 U fm++s6 k U)) (.m p)=if(w p fm).isSome then some ((w p U).map .b)else if k<=p then(w p U).map (λb=>some<|.b b)else none:=by
  intro p;simp only[bf,reduceCtorEq,cC,Qn,XH,Gv];by_cases h:(w p fm).isSome=ae
  .simp[h]
  .simp[h]
 have L:∀p b,dB σ ((.s d,some<|.v r)::(y5 U fm++s6 k U)) (.m p)=some (.b b)->(w p U=some b/\p<k')\/(w p fm=none/\σ (.m p)=some (.b b)/\R p):=by
  intro p b K;simp only[dB,Qr]at K;by_cases h:(w p fm).isSome=ae
  .simp only[h,cA,cd]at K;let ⟨x,C,he⟩:=K;cases he;exact .inl ⟨C,X.fD p (.b b)<|by simp[St.kn,C]⟩
  .have A:w p fm=none:=by simpa using h
   simp only[h,cC,jQ]at K;by_cases T:k<=p
   .simp only[T,cA]at K;cases C:w p U with
    |none=>
     rw[C]at K
     simp only[Option.map_none]at K
     exact .inr ⟨A,K,l.fD _ _ K⟩
    |some x=>
     rw[C]at K
     simp only[Kj,aR,Info.b.injEq]at K
     subst K
     exact .inl ⟨J,X.fD p (.b x)<|by simp[St.kn,C]⟩
   .simp only[T,cC]at K;exact .inr ⟨A,K,l.fD _ _ K⟩
 have q:∀p b E,w p fm=none->σ (.m p)=some (.b b)->cP (g.γ p)=some E->E<W.heap.size/\¬F.own E:=by intro p b E h2 O h4;refine⟨((l.db p b O).block h4).2,?_⟩;rintro⟨c,bb,h5,h6⟩;have:=l.inj p c b bb E O (kX c bb h5) h4 h6;subst this;rw[h2]at h5;cases h5
 refine⟨by simp[jq,l.size],l.defers,?_,?_,?_,?_,?_,by rw[Z];exact X.sub,?_,by rw[Z];exact l.le.trans X.le,?_,?_⟩
 .intro t u ht;simp only[dB,bf,Qn,Qo,Gu]at ht;by_cases bZ:d=t
  .subst bZ;simp only[cA,aR,Info.v.injEq]at ht;subst ht;have hr:=X.gM 0 r (by simp[St.kn,w]);have hv:(a.put (some d) v).tmps.getD d undef=v:=by simp[jq,hd]
   rw[hv];exact bI.mono Qq XL (by simpa[AS]using hr)
  .have e':¬(Key.s d=Key.s t):=λh=>bZ du
   simp only[e',cC]at ht;have hv:(a.put (some d) v).tmps.getD t undef=a.tmps.getD t undef:=by simp[jq,nf bZ]
   rw[hv];exact bI.mono Q (λc B=>l.ar _ _ ht c B)<|l.gM t u ht
 .intro p b K;rcases L p b K with⟨h2,O⟩|⟨h2,O,h4⟩
  .have XM:=X.db p b Gx;exact XM.Dj (λE pz=>hN' E (XM.block pz).1) (D p O) Z ⟨Qq.H,λi hi=>Qq.γ i<|X.ar (.m p) (.b b) Gx i hi⟩
  .refine(l.db p b O).Dk Q h4 (λi hi=>l.ar _ _ O i hi)<|λE pz=>?_;let ⟨h5,h6⟩:=q p b E h2 O pz;rw[Z];exact z E h5 h6
 .intro p j' b b' E K vA V Y;rcases L p b K with⟨h2,O⟩|⟨h2,O,h4⟩<;>rcases L j' b' vA with⟨Dp,Gy⟩|⟨Dp,Gy,XN⟩
  .rw[D p O]at V;rw[D j' Gy]at Y;exact X.inj p j' b b' E Gx (by simp[St.kn,Dp]) V Y
  .exfalso;rw[D p O]at V;rw[Q.γ j' XN]at Y;let ⟨h5,h6⟩:=q j' b' E Dp Gy Y;rcases((X.db p b Gx).block V).1 with h7|h7
   .exact absurd h7 (S:¬W.heap.size<=E)
   .exact h6 h7
  .exfalso;rw[D j' Gy]at Y;rw[Q.γ p h4]at V;let ⟨h5,h6⟩:=q p b E h2 O V;rcases((X.db j' b'<|by simp[St.kn,Dp]).block Y).1 with h7|h7
   .exact absurd h7 (S:¬W.heap.size<=E)
   .exact h6 h7
  .rw[Q.γ p h4]at V;rw[Q.γ j' XN]at Y;exact l.inj p j' b b' E O Gy V Y
 .intro key x C c B;cases key with
  |s t=>
   simp only[dB,bf,Qn,Qo,Gu]at C
   by_cases bZ:d=t
   .subst bZ;simp only[cA,aR]at C;subst C;exact XK c (Gw c B)<|XL c B
   .have e':¬(Key.s d=Key.s t):=λh=>bZ du
    simp only[e',cC]at C;exact .inl<|l.ar _ _ C c B
  |m p=>
   cases x with
   |v u=>
    simp only[dB,Qr]at C
    by_cases h:(w p fm).isSome=ae
    .simp only[h,cA,cd]at C;let ⟨_,_,he⟩:=C;cases he
    .simp only[h,cC,jQ]at C;by_cases T:k<=p
     .simp only[T,cA]at C;cases hy:w p U with
      |none=>rw[hy]at C;exact .inl<|l.ar (.m p) (.v u) (by simpa using C) c B
      |some y=>rw[hy]at C;simp at C
     .simp only[T,cC]at C;exact .inl<|l.ar _ _ C c B
   |b b=>
    rcases L p b C with⟨h2,O⟩|⟨h2,O,h4⟩
    .rcases oP p b h2 with h7|h7
     .exact .inl<|l.ar _ _ (kX p b h7) c B
     .exact XK c (h7 c B)<|X.ar (.m p) (.b b) Gx c B
    .exact .inl<|l.ar _ _ O c B
 .intro p x C;simp only[dB,Qr]at C;by_cases h:(w p fm).isSome=ae
  .let ⟨b,K⟩:=Option.isSome_iff_exists.1 h;exact .inl<|XJ p b K
  .simp only[h,cC,jQ]at C;by_cases T:k<=p
   .simp only[T,cA]at C;cases hy:w p U with
    |none=>rw[hy]at C;exact .inl (l.fD _ _<|by simpa using C)
    |some y=>exact .inr ⟨T,X.fD p (.b y)<|by simp[St.kn,hy]⟩
   .simp only[T,cC]at C;exact .inl<|l.fD _ _ C
 .refine⟨X.below.os.trans l.below.os,X.below.tape.trans l.below.tape,X.below.output.trans l.below.output,cQ l.below.size X.below.size,λE T A=>?_⟩;have iD:E<W.heap.size:=jD T l.below.size;rw[<-l.below.block E T A];refine(z E iD<|λho=>?_).1;rcases hN E (.inr ho) iD with h2|h2
  .omega
  .exact A h2
 .intro E o T A;have iD:E<W.heap.size:=jD T l.below.size;rw[Z,(z E iD<|λho=>?_).2 o]
  .exact l.fresh E o T A
  .rcases hN E (.inr ho) iD with h2|h2
   .omega
   .exact A h2
 .intro c B;let ⟨h2,O⟩:=l.iJ c B;exact⟨.inl h2,by rw[Q.γ c h2];exact O⟩
end
def Gz:Bool×V C->bF AV
 | (ae,cs)=>some<|.a cs
 | (ah,[c])=>some<|.c c
 |_=>none
def vS:V (Bool×V C)->bF (V AV)
 |[]=>some []
 |a::r=>(match Gz a,vS r with
  |some v,some vs=>some<|v::vs
  |_,_=>none)
def KE{g:Gh}:∀{l:V (Bool×V C)}{vs:V AV}{f:V bH},vS l=some vs->dt g l f->ju g vs f
 |[],vs,f,a,i=>by simp only[vS,aR]at a;subst a;exact i
 |m::r,vs,f,a,i=>by
  simp only[vS]at a;split at a
  .rename_i v n b p;simp only[aR]at a;subst a;obtain⟨x,k,rfl,d,B⟩:=i;refine⟨x,k,J,?_,KE p B⟩;match m,b,d with
   | (ae,cs),b,d=>simp only[Gz,aR]at b;subst b;exact d
   | (ah,[c]),b,d=>simp only[Gz,aR]at b;subst b;exact d
  .simp at a
def XO:∀{g:V (Bool×V C)}{vs:V AV},vS g=some vs->∀f∈fE vs,f∈fN g
 |[],vs,b,f,a=>by simp only[vS,aR]at b;subst b;cases a
 |i::r,vs,b,f,a=>by
  simp only[vS]at b;split at b
  .rename_i v k d l;simp only[aR]at b;subst b;simp only[fE,b8]at a;simp only[fN,b8];rcases a with a|a
   .left;match i,d with
    | (ae,cs),d=>simp only[Gz,aR]at d;subst d;exact a
    | (ah,[c]),d=>simp only[Gz,aR]at d;subst d;simpa[cy,AV.ar]using a
   .exact .inr<|XO l f a
  .simp at b
def ju.append{g:Gh}:∀{xs b:V AV}{c d:V bH},ju g xs c->ju g b d->ju g (xs++b) (c++d)
 |[],_,_,_,a,h2=>by simp only[ju]at a;subst a;exact h2
 |x::xs,_,_,_,a,h2=>by obtain⟨f,r,rfl,i,k⟩:=a;exact⟨f,r++_,J,i,ju.append k h2⟩
def XP xs a:fE (xs++a)=fE xs++fE a:=by
 induction xs with
 |nil=>rfl
 |cons x xs b=>simp[fE,b]
section
variable{P:cT}{tt:TT}
def Qs{f}{d b}{W}(a:oJ P f=ae):(invoke (.fn (.func f) b) d).run P W= .ok (.enter f<|d++b) W:=by
 unfold oJ at a;cases c:P.funcs[f]? with
 |none=>rw[c]at a;simp at a
 |some fn=>
  rw[c]at a
  simp only[eG,bne_iff_ne,ne_eq]at a
  have g:fn.body≠none:=by intro i;rw[i]at a;simp at a
  simp[invoke,callFunc,c,a.1,g]
end
def Dq(c:TT)(f g:I):bF (I×TI):=match w f c,w g c with
 |some a,some b=>(match a.kind,b.kind with
  | .sl E,.sl _=>(match w E c with
   |some d=>if 0<d.size then some (E,d)else none
   |none=>none)
  |_,_=>none)
 |_,_=>none
section
variable{P:cT}{tt:TT}
def XQ(d:cN P tt=ae){B F E}{m}(c:Dq tt B F=some (E,m)):air P B F E m.size m.bytes:=by
 unfold Dq at c;split at c
 .rename_i a b K Q;split at c
  .rename_i U W n p;split at c
   .rename_i r f;split at c
    .rename_i g;simp only[aR,cG]at c;obtain⟨rfl,rfl⟩:=c;have C:=(g5 d K).kind;rw[n]at C;have H:=(g5 d Q).kind;rw[p]at H;let ⟨inf,i,k,l,z,v,x⟩:=(g5 d f).info;have R:=(g5 d f).Py;refine⟨C,⟨_,H⟩,⟨inf,z,i,k,l,v,?_⟩,g⟩;have:G z.cells.toList=(r.zero.map ZV.gq).length:=by rw[x]
     simp only[Qe,cL]at this;omega
    .simp at c
   .simp at c
  .simp at c
 .simp at c
end
def XR(a:dv):Bool:=match a.op with
 | .defer _=>ah
 |_=>ae
def qD:Code->Bool
 | .region _ ops _=>ops.toList.all XR
 | .seq x a=>qD x&&qD a
 | .cond _ x a=>qD x&&qD a
 | .block _ x=>qD x
 | .loop x=>qD x
 | .skip=>ae
 | .exit _=>ae
 | .ret=>ae
 |_=>ah
def pA(r:bF I)(c:Code):Prop:=r=none\/qD c=ae
def pA.seq{r}{x b}(a:pA r (.seq x b)):pA r x/\pA r b:=by
 rcases a with a|a
 .exact⟨.inl a,.inl a⟩
 .simp only[qD,eG]at a;exact⟨.inr a.1,.inr a.2⟩
def pA.cond{r}{c}{x b}(a:pA r (.cond c x b)):pA r x/\pA r b:=by
 rcases a with a|a
 .exact⟨.inl a,.inl a⟩
 .simp only[qD,eG]at a;exact⟨.inr a.1,.inr a.2⟩
def pA.loop{r}{x}(a:pA r (.loop x)):pA r x:=a
def pA.region{r}{g}{b}{d}(a:pA r (.region g b d)):yF r b:=by
 intro i o f;rcases a with a|a
 .exact .inl a
 .refine .inr<|λc k=>?_;simp only[qD,rv]at a;have:=a o (by rw[<-C3]at f;exact List.mem_of_getElem? f);simp[XR,k]at this
def dD:TT:=[
 (2,⟨.int .i64,1,8,[],[.i .i64]⟩),
 (3,⟨.int .i64,1,8,[],[.i .i64]⟩),
 (4,⟨.bool,1,1,[],[.b]⟩),
 (5,⟨.int .u8,1,1,[],[.i .u8]⟩),
 (6,⟨.int .u8,1,1,[],[.i .u8]⟩),
 (9,⟨.str,1,16,[],[.t]⟩),
 (10,⟨.str,1,16,[],[.t]⟩),
 (11,⟨.str,1,16,[],[.t]⟩),
 (12,⟨.int .u64,1,8,[],[.i .u64]⟩),
 (21,⟨.int .i32,1,4,[],[.i .i32]⟩),
 (22,⟨.sl 25,1,24,[],[.s]⟩),
 (23,⟨.int .u32,1,4,[],[.i .u32]⟩),
 (25,⟨.int .u64,1,8,[],[.i .u64]⟩),
 (28,⟨.sl 33,1,24,[],[.s]⟩),
 (29,⟨.int .i64,1,8,[],[.i .i64]⟩),
 (32,⟨.st,2,32,[(0,1,ah),(1,1,ah)],[.s,.i .i64]⟩),
 (33,⟨.st,2,32,[(0,1,ah),(1,1,ah)],[.s,.i .i64]⟩),
 (38,⟨.sl 86,1,24,[],[.s]⟩),
 (39,⟨.sl 46,1,24,[],[.s]⟩),
 (40,⟨.sl 46,1,24,[],[.s]⟩),
 (42,⟨.sl 23,1,24,[],[.s]⟩),
 (43,⟨.st,2,32,[(0,1,ah),(1,1,ah)],[.b,.s]⟩),
 (44,⟨.st,2,32,[(0,1,ah),(1,1,ah)],[.b,.s]⟩),
 (45,⟨.st,4,64,[(0,2,ae),(2,2,ae)],[.b,.s,.b,.s]⟩),
 (46,⟨.st,4,64,[(0,2,ae),(2,2,ae)],[.b,.s,.b,.s]⟩),
 (47,⟨.sl 80,1,24,[],[.s]⟩),
 (48,⟨.st,6,96,[(0,4,ae),(4,1,ah),(5,1,ah)],[.b,.s,.b,.s,.s,.i .i64]⟩),
 (49,⟨.st,6,96,[(0,4,ae),(4,1,ah),(5,1,ah)],[.b,.s,.b,.s,.s,.i .i64]⟩),
 (57,⟨.sl 44,1,24,[],[.s]⟩),
 (60,⟨.sl 22,1,24,[],[.s]⟩),
 (61,⟨.sl 57,1,24,[],[.s]⟩),
 (68,⟨.st,3,56,[(0,1,ah),(1,1,ah),(2,1,ah)],[.s,.s,.i .u64]⟩),
 (69,⟨.st,3,56,[(0,1,ah),(1,1,ah),(2,1,ah)],[.s,.s,.i .u64]⟩),
 (79,⟨.st,2,32,[(0,1,ah),(1,1,ah)],[.s,.i .i64]⟩),
 (80,⟨.st,2,32,[(0,1,ah),(1,1,ah)],[.s,.i .i64]⟩),
 (86,⟨.int .i8,1,1,[],[.i .i8]⟩),
 (100,⟨.st,2,32,[(0,1,ah),(1,1,ah)],[.s,.i .u64]⟩),
 (101,⟨.st,2,32,[(0,1,ah),(1,1,ah)],[.s,.i .u64]⟩),
 (111,⟨.sl 40,1,24,[],[.s]⟩),
 (119,⟨.st,2,48,[(0,1,ah),(1,1,ah)],[.s,.s]⟩),
 (120,⟨.st,2,48,[(0,1,ah),(1,1,ah)],[.s,.s]⟩),
 (125,⟨.sl 101,1,24,[],[.s]⟩),
 (146,⟨.arr 4 25,4,32,[],[.i .u64,.i .u64,.i .u64,.i .u64]⟩),
 (155,⟨.int .u64,1,8,[],[.i .u64]⟩),
 (174,⟨.st,2,48,[(0,1,ah),(1,1,ah)],[.s,.s]⟩),
 (175,⟨.st,2,48,[(0,1,ah),(1,1,ah)],[.s,.s]⟩),
 (187,⟨.int .i64,1,8,[],[.i .i64]⟩),
 (219,⟨.sl 3,1,24,[],[.s]⟩),
 (222,⟨.int .u64,1,8,[],[.i .u64]⟩),
 (257,⟨.st,4,40,[(0,1,ah),(1,1,ah),(2,1,ah),(3,1,ah)],[.p,.p,.p,.t]⟩),
 (258,⟨.st,4,40,[(0,1,ah),(1,1,ah),(2,1,ah),(3,1,ah)],[.p,.p,.p,.t]⟩),
 (259,⟨.arr 0 16,0,0,[],[]⟩),
 (262,⟨.int .u8,1,1,[],[.i .u8]⟩),
 (263,⟨.int .u8,1,1,[],[.i .u8]⟩),
 (266,⟨.int .i32,1,4,[],[.i .i32]⟩),
 (267,⟨.int .i32,1,4,[],[.i .i32]⟩)]
def a6:cN j dD=ae:=j8
def MX:Tryz.prog.follows .mixedOrders=ae:=j8
abbrev al:ET:= .int .u32
abbrev y6:ET:= .int .u64
abbrev dS:ET:= .int .i64
abbrev I8:ET:= .int .i8
abbrev cI(n:Z):AV:= .c<|.I .i64 n
abbrev cU(n:Z):AV:= .c<|.I .u64 n
abbrev cW(n:Z):AV:= .c<|.I .u32 n
abbrev cB(b:Bool):AV:= .c<|.B b
abbrev cS(a:ET)(xs:V a.den):AV:= .c<|.S a xs
abbrev aZ(b:Z):AV:= .a<|av .z b
abbrev aQ(b:Rat):AV:= .a<|av .q b
section
variable{n:I}{Q:ix}{sl sl':V (I×AV)}{mem mem':V (I×aH)}{nx:I}{gd gd':V (I×Bool)}{id:I}{ops:Array dv}{draw:Bool}{y:Code}{p:Pr}{ks dd:V Ks}{i i' n0 bQ:I}
def rr(b:runs dD n nx draw ops.toList ops.toList 0 ⟨sl,mem,nx,gd⟩ .t []=([],i',⟨sl',mem',n0,gd'⟩,p,ks))(c:TR j n y ⟨sl',mem',nx+1,[]⟩ Q)
  (hp:p:=by exact lW) (d:(!draw||rE ops.toList ks)=ae:=by kernel_rfl) (a:iv ops.size 1000=ae:=by rfl):TR j n (.seq (.region id ops draw) y) ⟨sl,mem,nx,gd⟩ Q:=
 L (Kf MX<|jI a6 b hp<|F' c d a)
def rt(b:runs dD n nx draw ops.toList ops.toList 0 ⟨sl,mem,nx,gd⟩ .t []=([],i',⟨sl',mem',n0,gd'⟩,p,ks))(c:fw n .normal ⟨sl',mem',nx+1,[]⟩ Q)
  (hp:p:=by exact lW) (d:(!draw||rE ops.toList ks)=ae:=by kernel_rfl) (a:iv ops.size 1000=ae:=by rfl):TR j n (.region id ops draw) ⟨sl,mem,nx,gd⟩ Q:=
 Kf MX (jI a6 b hp<|F' c d a)
def rb(b:RG j n ops draw nx 0 ops.toList ⟨sl,mem,nx,gd⟩ [] (λa=>TR j n y a Q)):TR j n (.seq (.region id ops draw) y) ⟨sl,mem,nx,gd⟩ Q:=L<|Kf MX b
def bs(b:RG j n ops draw nx 0 ops.toList ⟨sl,mem,nx,gd⟩ [] (λa=>fw n .normal a Q)):TR j n (.region id ops draw) ⟨sl,mem,nx,gd⟩ Q:=Kf MX b
variable{R:St->Prop}{os:V dv}{d f:I}{args:Array rB}{lV:Array eL}{ty:eL}{pos:String}{hJ:Array Edge}{dm:V dv}{vs:V AV}{r:AV}
def rc(b:runs dD n nx draw ops.toList os i ⟨sl,mem,n0,gd⟩ .t ks=(⟨some d,.call ⟨.value<|.func f,args,lV⟩,ty,pos,hJ,none⟩::dm,i',⟨sl',mem',bQ,gd'⟩,p,dd))(c:km ⟨sl',mem',bQ,gd'⟩ args.toList=some vs)(g:af j f vs r)
  (k:RG j n ops draw nx (i'+1) dm ⟨(d,r)::sl',mem',bQ,gd'⟩ (ff draw dd (cH args.toList,[.s d])) R)
  (hp:p:=by exact lW) (l:fE vs=[]:=by rfl) (a:f' d n=ae:=by rfl):RG j n ops draw nx i os ⟨sl,mem,n0,gd⟩ ks R:=
 jI a6 b hp (ahQ c g k l a)
def eI{m g}{a b}(v:runs dD n nx draw ops.toList os i ⟨sl,mem,n0,gd⟩ .t ks=(⟨some d,.call ⟨.value<|.func f,args,lV⟩,ty,pos,hJ,some (m,a)⟩::dm,i',⟨sl',mem',bQ,gd'⟩,p,dd))(x:vH ops.toList m=some g)(E:w g sl'=some (.c<|.B b))(k:b=a)(F:km ⟨sl',mem',bQ,gd'⟩ args.toList=some vs)(H:af j f vs r)
  (P:RG j n ops draw nx (i'+1) dm ⟨(d,r)::sl',mem',bQ,gd'⟩ (ff draw dd (.s g::cH args.toList,[.s d])) R)
  (hp:p:=by exact lW) (U:fE vs=[]:=by rfl) (l:f' d n=ae:=by rfl):RG j n ops draw nx i os ⟨sl,mem,n0,gd⟩ ks R:=
 jI a6 v hp (ahR x E k F H P U l)
def re(b:runs dD n nx draw ops.toList os i ⟨sl,mem,n0,gd⟩ .t ks=([],i',⟨sl',mem',bQ,gd'⟩,p,dd))(c:R ⟨sl',mem',nx+1,[]⟩)
  (hp:p:=by exact lW) (ho:(!draw||rE ops.toList dd)=ae:=by kernel_rfl) (a:iv ops.size 1000=ae:=by rfl):RG j n ops draw nx i os ⟨sl,mem,n0,gd⟩ ks R:=
 jI a6 b hp (F' c ho a)
def rg a{b}{g}(k:runs dD n nx draw ops.toList os i ⟨sl,mem,n0,gd⟩ .t ks=(g::dm,i',⟨sl',mem',bQ,gd'⟩,p,dd))(l:w a sl'=some (.c<|.B b))
  (m:b=ae->RG j n ops draw nx i' (g::dm) ⟨(a,.c<|.B ae)::sl',mem',bQ,(a,ae)::gd'⟩ dd R) (v:b=ah->RG j n ops draw nx i' (g::dm) ⟨(a,.c<|.B ah)::sl',mem',bQ,(a,ah)::gd'⟩ dd R)
  (hp:p:=by exact lW):RG j n ops draw nx i os ⟨sl,mem,n0,gd⟩ ks R:=
 jI a6 k hp (ahS a l m v)
def rm{W:I}{x}a(m:I)(bW:runs dD n nx draw ops.toList os i ⟨sl,mem,n0,gd⟩ .t ks=(⟨some d,.makeSlice W x x,ty,pos,hJ,none⟩::dm,i',⟨sl',mem',bQ,gd'⟩,p,dd)){k}{v}(hx:St.ev ⟨sl',mem',bQ,gd'⟩ x=some (.c<|.I k v)){E}{ti b}(l:w W dD=some ti)(B:ti.kind= .sl E)(F:w E dD=some b)(H:b.size=a.n)
  (hz:∀g:Gh,bL g (av a a.cJ) (b.zero.map ZV.gq)) (hv:v=(m:Z)) (hb:m*b.bytes<=281474976710656) (P:m*a.n<=140737488355328)
  (hk:RG j n ops draw nx (i'+1) dm ⟨(d,.c<|.X<|1000000*nx+1000*i')::sl',(1000000*nx+1000*i',.vec E a<|bh m a.cJ)::mem',bQ,gd'⟩ (ff draw dd (cH [x,x],[.s d,.m<|1000000*nx+1000*i'])) R)
  (hp:p:=by exact lW) (U:f' d n=ae:=by rfl):RG j n ops draw nx i os ⟨sl,mem,n0,gd⟩ ks R:=
 jI a6 bW hp (ah1 a6 a m hx hv l B F H hz hb P hk U)
end
def kH k g:bL g (av (.int k)<|ET.cJ<|.int k) ([ZV.i k].map ZV.gq):=⟨_,_,J,J,J⟩
def XS H:Cu H [] (.slice none 0 0):=⟨none,0,J,a8 _,ax,.inl J⟩
def xr g:bL g (av .z (0:Z)) ([ZV.b,ZV.s].map ZV.gq):=JF ⟨_,J,XS _⟩
def KF g:bL g (av (.pr .z .z) ((0,0):Z×Z)) ([ZV.b,ZV.s,ZV.b,ZV.s].map ZV.gq):=bL.append (xr g)<|xr g
def aiB a g:bL g (av (.sl a) []) ([ZV.s].map ZV.gq):=⟨_,_,J,⟨none,0,J,a8 _,ax,.inl J⟩,J⟩
section
variable{n:I}{Q:ix}{sl sl':V (I×AV)}{mem mem':V (I×aH)}{nx:I}{gd gd':V (I×Bool)}{id:I}{ops:Array dv}{draw:Bool}{y y0:Code}{p q:Pr}{ks dd XT:V Ks}{i i' n0 bQ:I}{st:St}{fn:Func}{rs:V ResultVar}{r r':AV}
variable{R:St->Prop}{os:V dv}{d f:I}{args:Array rB}{lV:Array eL}{ty:eL}{pos:String}{hJ:Array Edge}{dm:V dv}{vs:V AV}
def atR(b:oK dD st rs=some r)(a:fn.results=rs.toArray:=by rfl)(c:r.ar=[]:=by rfl):fw n .ret st (xf j fn r):=g8 a6 b (a7.refl _) a c
def c9(b:oK dD st rs=some r')(c:r'=r)(a:fn.results=rs.toArray:=by rfl)(g:r.ar=[]:=by rfl):fw n .ret st (xf j fn r):=g8 a6 b (a7.of_eq c) a g
def bU(b:oK dD st rs=some r)(a:fn.results=rs.toArray:=by rfl)(c:r.ar=[]:=by rfl):TR j n .ret st (xf j fn r):=bc<|atR b a c
def bq(b:oK dD st rs=some r')(c:r'=r)(a:fn.results=rs.toArray:=by rfl)(g:r.ar=[]:=by rfl):TR j n .ret st (xf j fn r):=bc<|c9 b c a g
def aN{a:Type}{b:a->St}{c:a->Prop}{g:a->I}{x}(k:fw n .normal st Q):TR j n (.exit id) st (sY j y0<|Gb b c g x<|xd id Q):=jS<|lJ<|kF<|jT k
def ai(a:TR j n y st Q):TR j n .skip st (sY j y Q):=bN<|ay a
def aT(a:TR j n y st Q):fw n .normal st (xd id<|sY j y Q):=dy<|ay a
def aO(l:runs dD n nx draw ops.toList ops.toList 0 ⟨sl,mem,nx,gd⟩ .t []=(⟨some d,.call ⟨.value<|.func f,args,lV⟩,ty,pos,hJ,none⟩::dm,i',⟨sl',mem',bQ,gd'⟩,p,dd))(m:km ⟨sl',mem',bQ,gd'⟩ args.toList=some vs)(v:af j f vs r)
 {b}{a}{x B}{c}(E:runs dD n nx draw ops.toList dm (i'+1) ⟨(d,r)::sl',mem',bQ,gd'⟩ .t (ff draw dd (cH args.toList,[.s d]))=([],B,⟨b,a,x,c⟩,q,XT)) (F:TR j n y ⟨b,a,nx+1,[]⟩ Q)
  (H:p:=by exact lW) (P:fE vs=[]:=by rfl) (g:f' d n=ae:=by rfl) (U:q:=by first|trivial| (simp only[Pr.an,Pr.h,num,eO,true_and,and_true];first|done|omega)| (simp[Pr.an,Pr.h,num,eO];done)| (simp[Pr.an,Pr.h,num,eO];omega)) (W:(!draw||rE ops.toList XT)=ae:=by kernel_rfl) (k:iv ops.size 1000=ae:=by rfl):TR j n (.seq (.region id ops draw) y) ⟨sl,mem,nx,gd⟩ Q:=
 rb (rc l m v (re E F U W k) H P g)
def aD{f}{fn}{c}{args}{r}(l:Tryz.prog.funcs[f]? =some fn)(m:TR j n c ⟨k8 0 args,[],0,[]⟩ (xf j fn r))(v:fn.body=some c:=by exact GA)(x:fn.ntmps=n:=by exact GA)(b:iv args.length n=ae:=by exact GA)(g:fE args=[]:=by exact GA)(k:r.ar=[]:=by exact GA)(a:(fn.name != "runtime.NumGoroutine")=ae:=by decide):af j f args r:=yT l v x b g k a m
end
section
variable{n:I}{sl sl':V (I×AV)}{mem mem':V (I×aH)}{nx:I}{gd gd':V (I×Bool)}{ops:Array dv}{draw:Bool}{p:Pr}{ks dd:V Ks}{i i' n0 bQ:I}
variable{R:St->Prop}{os:V dv}{d:I}{ty:eL}{pos:String}{hJ:Array Edge}{dm:V dv}
def rl g xs{k b:I}{a}(v:runs dD n nx draw ops.toList os i ⟨sl,mem,n0,gd⟩ .t ks=(⟨some d,.buildSlice k b a,ty,pos,hJ,none⟩::dm,i',⟨sl',mem',bQ,gd'⟩,p,dd)){E}{r}(x:AJ dD ⟨sl',mem',bQ,gd'⟩ k b a.toList=some (E,r,xs.flatMap<|av g))
  (B:RG j n ops draw nx (i'+1) dm ⟨(d,.c<|.S g xs)::sl',mem',bQ,gd'⟩ (ff draw dd (cH (Op.buildSlice k b a).operands.toList,[.s d])) R) (F:r.size=g.n:=by rfl) (l:G xs=b:=by rfl) (f:iv (b*g.n) 16777216=ae:=by rfl)
  (hp:p:=by exact lW) (m:f' d n=ae:=by rfl):RG j n ops draw nx i os ⟨sl,mem,n0,gd⟩ ks R:=
 jI a6 v hp (ah3 a6 g xs x F l f B m)
def gR g xs{k b:I}{a}(x:runs dD n nx draw ops.toList os i ⟨sl,mem,n0,gd⟩ .t ks=(⟨some d,.buildSlice k b a,ty,pos,hJ,none⟩::dm,i',⟨sl',mem',bQ,gd'⟩,p,dd)){E}{v}(B:AJ dD ⟨sl',mem',bQ,gd'⟩ k b a.toList=some (E,v,xs.flatMap<|av g))
  (F:RG j n ops draw nx (i'+1) dm ⟨(d,.c<|.X<|1000000*nx+1000*i')::sl',(1000000*nx+1000*i',.vec E g xs)::mem',bQ,gd'⟩ (ff draw dd (cH (Op.buildSlice k b a).operands.toList,[.s d,.m<|1000000*nx+1000*i'])) R) (H:v.size=g.n:=by rfl) (l:G xs=b:=by rfl) (f:iv (b*g.n) 16777216=ae:=by rfl)
  (P:p:=by exact lW) (r:f' d n=ae:=by rfl):RG j n ops draw nx i os ⟨sl,mem,n0,gd⟩ ks R:=
 jI a6 x P (ah4 a6 g xs B H l f F r)
def jx{r:I}{x b}{a m k}{E}{T}{xs}{v}{B}(f:T.den)(F:runs dD n nx draw ops.toList os i ⟨sl,mem,n0,gd⟩ .t ks=(⟨none,.store r x b,ty,pos,hJ,none⟩::dm,i',⟨sl',mem',bQ,gd'⟩,p,dd))
  (H:St.ev ⟨sl',mem',bQ,gd'⟩ x=some (.c<|.Y a m k 0)) (P:w a mem'=some (.vec E T xs)) (Q:St.ev ⟨sl',mem',bQ,gd'⟩ b=some v) (g:js v=some (av T f)) (U:k<G xs)
  (W:RG j n ops draw nx (i'+1) dm ⟨sl',(a,.vec E T<|xs.set k f)::mem',bQ,gd'⟩ (ff draw dd (cH [x,b]++fv [a],[.m a])) R) (hm:T.n=m:=by rfl) (l:px dD r=some (m,B):=by rfl)
  (hp:p:=by exact lW):RG j n ops draw nx i os ⟨sl,mem,n0,gd⟩ ks R:=
 jI a6 F hp (AI a6 H P Q hm l f g U W)
def ra{x r}{W t2}{b}{E E2:eL}{a}{xs f}{ti g l}(bW:runs dD n nx draw ops.toList os i ⟨sl,mem,n0,gd⟩ .t ks=(⟨some d,.call ⟨.builtin .append,#[x,r],#[W,t2]⟩,ty,pos,hJ,none⟩::dm,i',⟨sl',mem',bQ,gd'⟩,p,dd))
  (hx:St.ev ⟨sl',mem',bQ,gd'⟩ x=some (.c<|.X b)) (hl:w b mem'=some (.vec E a xs)) (hy:St.ev ⟨sl',mem',bQ,gd'⟩ r=some (.c<|.S a f)) (v:w W dD=some ti) (hk:ti.kind= .sl E) (k:w t2 dD=some g) (B:g.kind= .sl E2) (F:w E dD=some l)
  (hb:((G xs+G f)+(G xs+G f)/4+192)*l.bytes<=281474976710656) (H:(G xs+G f)*a.n<=140737488355328)
  (hr:RG j n ops draw nx (i'+1) dm ⟨(d,.c<|.X<|1000000*nx+1000*i')::sl',(1000000*nx+1000*i',.vec E a<|xs++f)::vG b mem',bQ,gd'⟩ (ff draw dd (cH [x,r]++fv [b],[.s d,.m<|1000000*nx+1000*i',.m b])) R) (P:l.size=a.n:=by rfl) (Q:G l.zero=a.n:=by rfl)
  (hp:p:=by exact lW) (U:f' d n=ae:=by rfl):RG j n ops draw nx i os ⟨sl,mem,n0,gd⟩ ks R:=
 jI a6 bW hp (aij a6 hx hl hy v hk k B F P Q hb H hr U)
def Qt{x l}{U W}{E E2:eL}{a}{b}{ti f k}(bW:runs dD n nx draw ops.toList os i ⟨sl,mem,n0,gd⟩ .t ks=(⟨some d,.call ⟨.builtin .append,#[x,l],#[U,W]⟩,ty,pos,hJ,none⟩::dm,i',⟨sl',mem',bQ,gd'⟩,p,dd))
  (hx:St.ev ⟨sl',mem',bQ,gd'⟩ x=some (.c<|.V<|.slice none 0 0)) (hy:St.ev ⟨sl',mem',bQ,gd'⟩ l=some (.c<|.S a b)) (r:w U dD=some ti) (hk:ti.kind= .sl E) (g:w W dD=some f) (v:f.kind= .sl E2) (B:w E dD=some k)
  (hb:(G b+G b/4+192)*k.bytes<=281474976710656) (F:G b*a.n<=140737488355328)
  (hr:RG j n ops draw nx (i'+1) dm ⟨(d,.c<|.X<|1000000*nx+1000*i')::sl',(1000000*nx+1000*i',.vec E a b)::mem',bQ,gd'⟩ (ff draw dd (cH [x,l],[.s d,.m<|1000000*nx+1000*i'])) R) (H:k.size=a.n:=by rfl) (P:G k.zero=a.n:=by rfl)
  (hp:p:=by exact lW) (Q:f' d n=ae:=by rfl):RG j n ops draw nx i os ⟨sl,mem,n0,gd⟩ ks R:=
 jI a6 bW hp (aik a6 hx hy r hk g v B H P hb F hr Q)
end
def KG:AV->bF Bool
 | .c (.V<|.slice none 0 0)=>some ae
 | .c (.L _ _ _ _)=>some ah
 | .c (.S _<|_::_)=>some ah
 |_=>none
def Qu(a:TT)(b:I):Bool:=match w b a with
 |some c=>(match c.kind with| .sl _=>ae|_=>ah)
 |none=>ah
def AT(a:ByteArray)(i:Z):bF Z:=match a[i.toNat]? with
 |some b=>some b.toNat
 |none=>none
def XU(a:TT)(op:BinOp)(d:I)(v f:AV):bF AV:=match f with
 | .c (.V<|.slice none 0 0)=>(match Qu a d,KG v with
  |true,some b=>(match op with
   | .eql=>some<|.c<|.B b
   | .neq=>some<|.c<|.B<|!b
   |_=>none)
  |_,_=>none)
 |_=>none
def AU(d:TT)(l:St):Op->bF (AV×Pr)
 | .build f parts=>(match w f d with
  |some g=>(match g.kind with
   | .arr len E=>(match w E d with
    |some n=>(match Ay (xk n.size 0 len) l (g.zero.map ZV.ru) parts.toList with
     |some cs=>some (.a cs,.t)
     |none=>none)
    |none=>none)
   |_=>none)
  |none=>none)
 | .index f x i=>(match l.ev x,l.ev i with
  |some (.a cs),some (.c<|.I _ k)=>(match w f d with
   |some g=>(match g.kind with
    | .arr len E=>(match px d E with
     |some (sz,p)=>(match oH cs (ad k*sz) sz p with
      |some m=>some (m,.and (.le 0 k)<|.lt k len)
      |none=>none)
     |none=>none)
    |_=>none)
   |none=>none)
  |some (.c<|.V<|.string r),some (.c<|.I _ k)=>(match w f d with
   |some g=>(match g.kind,AT r k with
    | .str,some b=>some (.c<|.I .u8 b,.le 0 k)
    |_,_=>none)
   |none=>none)
  |_,_=>none)
 | .binOp op f x B _=>(match l.ev x,l.ev B with
  |some v,some F=>(match XU d op f v F with
   |some m=>some (m,.t)
   |none=>none)
  |_,_=>none)
 |_=>none
section
variable{P:cT}{tt:TT}{g:Gh}{W:da}
def aiC{v}{b}(d:KG v=some b){k}(i:bI g v k):∃a l c,k= .slice a l c/\a.isNone=b:=by
 unfold KG at d;split at d
 .cases d;have m:k= .slice none 0 0:=i;exact⟨none,0,0,m,J⟩
 .rename_i B n r f;cases d;cases f with
  |some c=>obtain⟨b,_,rfl⟩:=i;exact⟨_,_,_,J,J⟩
  |none=>obtain⟨_,b,c,_,rfl,_⟩:=i;exact⟨_,_,_,J,J⟩
 .rename_i T x xs;cases d;obtain⟨a,f,rfl,_,_,p⟩:=i;rcases p with p|⟨b,n,rfl,_⟩
  .cases p
  .exact⟨_,_,_,J,J⟩
 .cases d
def aiD{b d}(f:P.underlying b=some (.slice d)) a l c:(Op.equal b (.slice a l c)<|.slice none 0 0).run P W= .ok a.isNone W:=by rw[Op.equal,show Op.maxDepth=9999+1 from J,Op.equalIn];cases a<;>simp[run_underlying f]
def aiE(R:cN P tt=ae){F}{d:I->Prop}{σ}{g}{W}{a}(bC:bu F d σ g W a){U}{n:BinOp}{p:eL}{r E}{ty}(dZ:U.op= .binOp n p r E ty){v:AV}{b:Bool}(f:Qu tt p=ae)(hn:KG v=some b){x:AV}
  (he:(n= .eql/\x=AV.c (.B b))\/(n= .neq/\x=AV.c (.B<|!b))) (h1:bI g v (a.eval r)/\∀H∈v.ar,d H) (Q:a.eval E= .slice none 0 0):
  (∀H∈x.ar,d H)/\∃v,(execOp a.eval U).run P W= .ok (.value v) W/\bI g x v:=by
 let ⟨q,l,c,K,h⟩:=aiC hn h1.1
 have i:∃e,P.underlying p=some (.slice e):=by
  unfold Qu at f;split at f
  .rename_i u X;split at f
   .rename_i e s;have j:=(g5 R X).kind;rw[s]at j;exact⟨e,j⟩
   .cases f
  .cases f
 let ⟨e,i⟩:=i
 have k:execOp a.eval U=(do pure (.value<|<-(do eqGuard n p r E (a.eval r) (a.eval E);binOp n p (a.eval r) (a.eval E):Go.Sem bH))):=wV
 have heq:=aiD (P:=P) (W:=W) i q l c
 rcases he with⟨rfl,rfl⟩|⟨rfl,rfl⟩
 .refine⟨λH m=>by simp[AV.ar,C.ar]at m,.bool b,?_,J⟩;rw[k,K,Q];simp[eqGuard,binOp,heq,eP,h]
 .refine⟨λH m=>by simp[AV.ar,C.ar]at m,.bool (!b),?_,J⟩;rw[k,K,Q];simp[eqGuard,binOp,heq,eP,h]
def aiF(Q:cN P tt=ae){ops}{i}{br:dv}{d:I}(ho:ops[i]? =some br)(hg:br.guard=none)(hd:br.dst=some d){n}(dC:d<n)
 {st}{x}{p}(f:AU tt st br.op=some (x,p)) (hp:p) new:ml P n ops i (qu st br.op) [(.s d,some<|.v x)] new:=by
 refine uu ho hg hd dC _ x new ?_
 intro F M σ g W a K N
 have O:∀y∈br.op.operands,∀kx∈dO st y,σ kx.1=some kx.2:=by intro y U kx S;exact N kx<|jF.2 ⟨y,by simpa using U,S⟩
 have H:∀y∈br.op.operands,∀u,st.ev y=some u->bI g u (a.eval y)/\∀id∈u.ar,M id:=by intro y U u T;exact⟨gO K st y u T<|O y U,uq K st y u T<|O y U⟩
 generalize dZ:br.op=op at f H O N
 unfold AU at f
 split at f
 .rename_i t l;split at f
  .rename_i ti X;split at f
   .rename_i e E hk;split at f
    .rename_i ei s0;split at f
     .rename_i cs sX;cases f;have L:=(g5 Q X).kind;rw[hk]at L;have T:P.underlying t=some (.array e E):=L;let ⟨inf,R,ki,_,z,hz,Az⟩:=(g5 Q X).info;let ⟨ie,hie,AW,_⟩:=(g5 Q s0).info;have hzr:bL g (ti.zero.map ZV.ru) (ti.zero.map ZV.gq):=CZ g ti.zero;let ⟨us,V,A,hlen,aiI⟩:=J6 K st (xk ei.size 0 e) (λi=>some (i*ei.size,ei.size)) (λi y U=>by have:=P9 ei.size e 0 i y U;rw[this,dU]) l.toList _ cs _ sX hzr (λq hq kx S=>N kx<|jF.2 ⟨q.2,by simp only[Op.operands];simp only[kY];exact⟨q,hq,J⟩,S⟩) (by rw[J8];intro _ h;cases h);refine⟨aiI,.agg us.toArray,?_,us,J,A⟩;have hzv:(zeroValue t).run P W= .ok z W:=by simp[zeroValue,typeInfo,R,hz]
      have aiK:z.cells=(ti.zero.map ZV.gq).toArray:=F6;have m:execOp a.eval br=(do pure (.value<|<-F7 t (l.map λ(i,x)=>(i,a.eval x)))):=wV;have GB:(l.map λ(i,x)=>(i,a.eval x)).toList=l.toList.map λp=>(p.1,a.eval p.2):=ax
      have hb:(F7 t<|l.map λ(i,x)=>(i,a.eval x)).run P W= .ok (.agg us.toArray) W:=by unfold F7;rw[dY,hzv];simp only[eP];rw[dY,run_underlying T];simp only[eP];rw[dY,run_sizeOf hie];simp only[eP,GB,aiK,AW,V];rfl
      rw[m,dY,hb];rfl
     .cases f
    .cases f
   .cases f
  .cases f
 .rename_i t y j;have m:execOp a.eval br=(do pure (.value<|<-KH t (a.eval y) (a.eval j))):=wV;split at f
  .rename_i cs k jj U hj;split at f
   .rename_i ti X;split at f
    .rename_i e E hk;split at f
     .rename_i sz ag Aw;split at f
      .rename_i u T;cases f;obtain⟨Y,oM⟩:0<=jj/\jj<(e:Z):=hp;have L:=(g5 Q X).kind;rw[hk]at L;have D:P.underlying t=some (.array e E):=L;let ⟨vs,hvs,A⟩:=(H y iK _ U).1;have Qv:a.eval j= .int k jj:=(H j iK _ hj).1;let ⟨hag,⟨inf,R,ki⟩,_⟩:=FP Q Aw;let ⟨v,hv,hvr⟩:=WM (P:=P) A T hag R ki W;refine⟨λid eo=>(H y iK _ U).2 id<|CO T id eo,v,?_,hvr⟩;have G:(KH t (a.eval y)<|a.eval j).run P W= .ok v W:=by rw[hvs,Qv];unfold KH;simp only[asIntOf,dY,Sem.run_pure,eP,run_underlying D,Y,oM,and_self,cA,run_sizeOf R,ki];exact hv
       rw[m,dY,G];rfl
      .cases f
     .cases f
    .cases f
   .cases f
  .rename_i s k jj U hj;split at f
   .rename_i ti X;split at f
    .rename_i b hk hb;cases f;have Y:0<=jj:=hp;have L:=(g5 Q X).kind;rw[hk]at L;have D:P.underlying t=some .string:=L;have hyv:a.eval y= .string s:=(H y iK _ U).1;have Qv:a.eval j= .int k jj:=(H j iK _ hj).1;refine⟨λid eo=>by simp[AV.ar,C.ar]at eo,.int .u8 b,?_,J⟩;have G:(KH t (a.eval y)<|a.eval j).run P W= .ok (.int .u8 b) W:=by
      rw[hyv,Qv];unfold AT at hb;unfold KH;simp only[asIntOf,dY,Sem.run_pure,eP,run_underlying D,Y,cA];split at hb
      .rename_i bb Qw;cases hb;rw[Qw];rfl
      .cases hb
     rw[m,dY,G];rfl
    .cases f
   .cases f
  .cases f
 .rename_i bo t y z ty;split at f
  .rename_i v w U hz;split at f
   .rename_i u0 r;cases f;unfold XU at r;split at r
    .split at r
     .rename_i b hsk hn;have aiQ:(bo= .eql/\x=AV.c (.B b))\/(bo= .neq/\x=AV.c (.B<|!b)):=by
       split at r
       .cases r;exact .inl ⟨J,J⟩
       .cases r;exact .inr ⟨J,J⟩
       .cases r
      exact aiE Q K dZ hsk hn aiQ (H y iK _ U) (H z iK _ hz).1
     .cases r
    .cases r
   .cases f
  .cases f
 .cases f
end
def XV(W:da)(H:FH)(E:eL)(d:ET)(xs:V d.den)(f:Ending)(c:da):Prop:=
 ∃v a,f= .returned v/\jn (λb=>W.heap.size<=b) ⟨a,λ_=>v⟩ c 0 (.vec E d xs)/\cz H a/\(∀b o,b<W.heap.size->a b o=H b o)/\Sub a c/\Below W.heap.size W c
structure lK(P:cT)(f:FuncId)(args:V AV)(E:eL)(a:ET)(xs:V a.den):Prop where
 call:oJ P f=ae
 spec:∀H W vs,Sub H W->ju ⟨H,jc⟩ args vs->Calls P f vs.toArray W (XV W H E a xs)
def XW(P:cT)(d:Func)(E:eL)(c:ET)(xs:V c.den):ix:=λF e a W=>(∀b,¬F.own b)->bodyPost P d (XV F.w0 F.H0 E c xs) e a W
section
variable{P:cT}{tt:TT}{n:I}{st:St}
def uD(p:cN P tt=ae){R}{r id}{E}{x}{xs}(U:w r st.sl=some (.c<|.X id))(hm:w id st.mem=some (.vec E x xs))(B:R.results= #[.tmp r]:=by rfl):fw n .ret st (XW P R E x xs):=by
 intro F e g W a h d;let ⟨u,hu,f⟩:=AG (rs:=[.tmp r]) (v:= .c<|.X id) p h B (by simp[oK,AE,U]);have i:=h.db id (.vec E x xs) (by simp[St.kn,hm]);have l:u=g.γ id:=f;refine⟨h.defers.trans e.ds,u,hu,u,g.H,J,?_,h.le,λb o j=>h.fresh b o j<|d b,h.sub,⟨h.below.os,h.below.tape,h.below.output,h.below.size,λk q=>h.below.block k q<|d k⟩⟩;rcases i with⟨C,K⟩|⟨b,Q,vs,C,K,s,y,z,A,m,D⟩
 .exact .inl ⟨by rw[l];exact C,K⟩
 .refine .inr ⟨b,Q,vs,by rw[l];exact C,K,s,y,z,A,?_,D⟩;rcases m with m|m
  .exact m
  .exact(d b m).elim
def vT{f}{g}{c}{args}{E}{Q}{xs}(hf:P.funcs[f]? =some g)(hb:g.body=some c)(U:g.ntmps=n)(i:iv args.length n=ae)(F:fE args=[])(yU:(g.name != "runtime.NumGoroutine")=ae)
  (l:TR P n c ⟨k8 0 args,[],0,[]⟩ (XW P g E Q xs)):lK P f args E Q xs:=by
 refine⟨C9,?_⟩
 intro H W vs p d
 refine calls_of_wp hf hb ?_
 have K:=yS d
 have i:=cY i
 refine wp_mono (l {w0:=W,H0:=H,n:=n} ⟨J,aW _,J,J⟩ ⟨H,jc⟩ W _ ⟨?_,J,?_,?_,?_,?_,?_,p,⟨J,J,J,a8 _,λ_ _ _=>rfl⟩,cz.refl _,λ_ _ _ _=>rfl,λ_ l=>absurd l<|yV _⟩)<|λe a D X=>X<|λ_ l=>l
 .simp[U];omega
 .intro t v R;simp only[St.kn,cd]at R;let ⟨x,hx,he⟩:=R;cases he;let ⟨_,u,hu,o,_⟩:=oL args vs 0 d t v hx;have r:vs[t]? =some u:=AH;have iD:t<G vs:=(uv.1 r).1;have:(vs.toArray++Array.replicate (g.ntmps-vs.toArray.size) undef).getD t undef=u:=by rw[ux,yW C'];simp[r]
  rw[this];exact o
 .intro B b e;simp[St.kn,w]at e
 .intro B q b I k e;simp[St.kn,w]at e
 .intro k x e B C;cases k with
  |m j=>simp[St.kn,w]at e
  |s t=>
   simp only[St.kn,cd]at e
   let ⟨y,z,he⟩:=e
   subst he
   let ⟨_,u,_,_,A⟩:=oL args vs 0 d t y z
   have:=A B C
   rw[F]at this
   cases this
 .intro B x e;simp[St.kn,w]at e
def aiR{n l}{ops}{i}{br:dv}(ho:ops[i]? =some br)(hg:br.guard=none){d:I}(hd:br.dst=some d)(dC:d<n){f}{args}{lV}(dZ:br.op= .call ⟨.value<|.func f,args,lV⟩)
 {st}{vs}{E:eL} {dR:ET} {xs:V dR.den} (hv:km st args.toList=some vs) (hm:fE vs=[]) (hf:lK P f vs E dR xs):lI P n ops i st ((st.pm l<|.vec E dR xs).put d<|.c<|.X l) l (cH args.toList,[.s d,.m l]):=by
 refine⟨args.toList.flatMap<|dO st,[(.s d,some<|.v<|.c<|.X l),(.m l,some<|.b<|.vec E dR xs)],?_,?_,AA st d l _ _,fZ st _,λk hk=>jG⟩
 .intro F nF Q w σ g W a K j bC Y hK;have z:=(yQ bC st _ _ hv Y).iw (γ:=jc) hm;have hc:=hf.spec g.H W _ bC.sub z;unfold wpOp;simp only[ho,nG,hg,cA];refine .inl ?_;unfold uk;have Z:(execOp a.eval br).run P W= .ok (.enter f<|args.map a.eval) W:=by
   have p:=hf.call;unfold oJ at p;rw[execOp,dZ];cases A:P.funcs[f]? with
   |none=>rw[A]at p;simp at p
   |some fn=>
    rw[A]at p
    simp only[eG,bne_iff_ne,ne_eq]at p
    have h2:fn.body≠none:=by intro hb;rw[hb]at p;simp at p
    simp[resolve,Act.eval,Deferred.ofValue,invoke,callFunc,A,p.1,h2]
  rw[Z];simp only[sL];have D:(args.map a.eval)=(args.toList.map a.eval).toArray:=uy;rw[D];refine hc.mono ?_;rintro e W' ⟨v,H',rfl,L,hle,rH,M,B⟩;simp only[hd];have ki:d<a.tmps.size:=pq;let R:Gh:=⟨H',λq=>if q=l then v else g.γ q⟩;have N:iT w g R:=⟨hle,λq r=>by
   have:q≠l:=λe=>j<|e▸r
   simp[R,this]⟩
  refine hK R W' _<|bC.step (chg:=λ_=>False) (g':=R) ⟨N,rH,M,B.size,λk hk _=>B.block k hk,B.os,B.tape,B.output⟩ _ l j qt bC.defers ?_ (λ_ h=>h.elim) ?_ ?_ ?_ ?_
  .intro t ht;have kj:d≠t:=rz;simp[jq,nf kj]
  .intro t u ht;simp only[bf]at ht;split at ht
   .rename_i e;simp only[Key.s.injEq]at e;simp only[aR,Info.v.injEq]at ht;subst e;subst ht;simp[jq,ki,bI,dn,R]
   .split at ht
    .simp at ht
    .simp at ht
  .intro q b ht;simp only[bf,reduceCtorEq,cC]at ht;split at ht
   .rename_i e;simp only[Key.m.injEq]at e;simp only[aR,Info.b.injEq]at ht;subst e;subst ht;have Dr:=bC.below.size;rcases L with⟨U,e2⟩|⟨b,O,ws,U,e2,e3,e4,e5,e6,e7,e8⟩
    .refine⟨.inl ⟨by simpa[R]using U,e2⟩,.inr ⟨J,λk hk=>?_⟩⟩;have U:v= .slice none 0 0:=U;simp[R,U,cP]at hk
    .have U:v= .slice (some ⟨b,0,none⟩) (G xs) O:=U;refine⟨.inr ⟨b,O,ws,by simpa[R]using U,e2,e3,e4,e5,e6,.inl S,e8⟩,.inr ⟨J,λk hk=>?_⟩⟩;simp[R,U,cP]at hk;exact .inl S
   .simp at ht
  .intro k y ht;simp only[bf]at ht;split at ht
   .simp only[aR]at ht;subst ht;intro q r;simp[Info.ar,AV.ar,C.ar]at r;exact .inr r
   .split at ht
    .simp only[aR]at ht;subst ht;intro q r;simp[Info.ar,aH.ar]at r
    .simp at ht
  .intro q y ht;simp only[bf,reduceCtorEq,cC]at ht;split at ht
   .rename_i e;simp only[Key.m.injEq]at e;exact .inr e.symm
   .simp at ht
 .intro kx dL;let ⟨x,_,h⟩:=jF.1 dL;exact gw st x kx h
def aiS{n}{b}{a}{g i}{d f:I}{args}{k}{R}{pos}{l}{B}{p}{mem}{r}{v}{F}{Q:St->Prop}{vs}{E}{H}{xs}
  (U:km ⟨p,mem,r,v⟩ args.toList=some vs) (W:lK P f vs E H xs) (bW:RG P n b a g (i+1) B ⟨(d,.c<|.X<|1000000*g+1000*i)::p,(1000000*g+1000*i,.vec E H xs)::mem,r,v⟩ (ff a F (cH args.toList,[.s d,.m<|1000000*g+1000*i])) Q) (hm:fE vs=[]:=by rfl) (x:f' d n=ae:=by rfl):
  RG P n b a g i (⟨some d,.call ⟨.value<|.func f,args,k⟩,R,pos,l,none⟩::B) ⟨p,mem,r,v⟩ F Q:=
 k7 (λC=>aiR C J J (cY x) J U hm W) (jH bW)
end
section
variable{P:cT}{tt:TT}
def aiT(g:cN P tt=ae){n c}{f}{i}{b:dv}(r:f[i]? =some b)(B:b.guard=none){d:I}(E:b.dst=some d)(l:d<n){a}{x}{p}(F:AU tt a b.op=some (x,p))(H:p):lI P n f i a (a.put d x) c (cH b.op.operands.toList,[.s d]):=by refine⟨qu a b.op,[(.s d,some<|.v x)],aiF g r B E l F H c,?_,nH a d x,fZ a _,λk hk=>jG⟩;intro C m;let ⟨x,_,h⟩:=jF.1 m;exact gw a x C h
def aiU{n}{b}{a}{r i}{d}{op:Op}{E}{pos}{c}{v}{f}{mem}{g}{k}{B}{Q:St->Prop}(l:cN P tt=ae){x}{p}(F:AU tt ⟨f,mem,g,k⟩ op=some (x,p))(H:p)
  (R:RG P n b a r (i+1) v ⟨(d,x)::f,mem,g,k⟩ (ff a B (cH op.operands.toList,[.s d])) Q) (m:f' d n=ae:=by rfl):
  RG P n b a r i (⟨some d,op,E,pos,c,none⟩::v) ⟨f,mem,g,k⟩ B Q:=
 k7 (λC=>aiT l C J J (cY m) F H) (jH R)
end
section
variable{n:I}{Q:ix}{sl sl':V (I×AV)}{mem mem':V (I×aH)}{nx:I}{gd gd':V (I×Bool)}{ops:Array dv}{draw:Bool}{p:Pr}{ks dd:V Ks}{i i' n0 bQ:I}{os dm:V dv}{d:I}{ty:eL}{pos:String}{hJ:Array Edge}{R:St->Prop}
def rx{op:Op}{x}{pm}(c:runs dD n nx draw ops.toList os i ⟨sl,mem,n0,gd⟩ .t ks=(⟨some d,op,ty,pos,hJ,none⟩::dm,i',⟨sl',mem',bQ,gd'⟩,p,dd))(f:AU dD ⟨sl',mem',bQ,gd'⟩ op=some (x,pm))(a:pm)
  (g:RG j n ops draw nx (i'+1) dm ⟨(d,x)::sl',mem',bQ,gd'⟩ (ff draw dd (cH op.operands.toList,[.s d])) R)
  (hp:p:=by exact lW) (b:f' d n=ae:=by rfl):RG j n ops draw nx i os ⟨sl,mem,n0,gd⟩ ks R:=
 jI a6 c hp (aiU a6 f a g b)
def uE{f}{args}{a}{vs}{E}{g}{xs}(k:runs dD n nx draw ops.toList os i ⟨sl,mem,n0,gd⟩ .t ks=(⟨some d,.call ⟨.value<|.func f,args,a⟩,ty,pos,hJ,none⟩::dm,i',⟨sl',mem',bQ,gd'⟩,p,dd))(l:km ⟨sl',mem',bQ,gd'⟩ args.toList=some vs)(r:lK j f vs E g xs)
  (v:RG j n ops draw nx (i'+1) dm ⟨(d,.c<|.X<|1000000*nx+1000*i')::sl',(1000000*nx+1000*i',.vec E g xs)::mem',bQ,gd'⟩ (ff draw dd (cH args.toList,[.s d,.m<|1000000*nx+1000*i'])) R)
  (hp:p:=by exact lW) (x:fE vs=[]:=by rfl) (b:f' d n=ae:=by rfl):RG j n ops draw nx i os ⟨sl,mem,n0,gd⟩ ks R:=
 jI a6 k hp (aiS l r v x b)
end
def Ds(i a:I):AV->AV
 | .c (.X k)=>if k=a then .c (.X i)else .c (.X k)
 |v=>v
def Dt(i a:I):V (I×AV)->V (I×AV)
 |[]=>[]
 | (b,v)::r=>(b,Ds i a v)::Dt i a r
def AX(i a:I):V (I×aH)->V (I×aH)
 |[]=>[]
 | (k,b)::r=>(if k=a then i else k,b)::AX i a r
def KJ(i a:I):AV->Bool
 | .c (.X k)=> !(k==i)
 |v=>v.ar.all λk=> !(k==i)&& !(k==a)
def KK(i a:I):V (I×AV)->Bool
 |[]=>ae
 | (_,v)::r=>KJ i a v&&KK i a r
def Du(i a:I):V (I×aH)->Bool
 |[]=>ae
 | (k,b)::r=> !(k==i)&&(b.ar.all λk=> !(k==i)&& !(k==a))&&Du i a r
def XX(i a b:I):∀l:V (I×AV),w b (Dt i a l)=(w b l).map (Ds i a)
 |[]=>rfl
 | (k,v)::r=>by simp only[Dt,w,XX i a b r];split<;>rfl
def XY{i b c:I}{v:AV}:∀{l:V (I×AV)},KK i b l=ae->w c l=some v->KJ i b v=ae
 |[],_,a=>by simp[w]at a
 | (k,x)::r,a,hl=>by
  simp only[KK,eG]at a;simp only[w]at hl;split at hl
  .cases hl;exact a.1
  .exact XY a.2 hl
def XZ{i c d:I}{b:aH}:∀{l:V (I×aH)},Du i c l=ae->w d l=some b->d≠i/\∀k∈b.ar,k≠i/\k≠c
 |[],_,a=>by simp[w]at a
 | (k,x)::r,a,hl=>by
  simp only[Du,eG,rv]at a;simp only[w]at hl;split at hl
  .rename_i f;cases hl;subst f;exact⟨by simpa using a.1.1,λk g=>by simpa using a.1.2 k g⟩
  .exact XZ a.2 hl
def Qx{i m:I}(c:I){b:aH}:∀{l:V (I×aH)},Du i m l=ae->w c (AX i m l)=some b->(c=i/\w m l=some b)\/(c≠i/\c≠m/\w c l=some b)
 |[],_,f=>by simp[AX,w]at f
 | (k,x)::r,f,hl=>by
  simp only[Du,eG]at f;have n:k≠i:=by simpa using f.1.1
  simp only[AX,w]at hl;by_cases a:k=m
  .rw[s a]at hl;subst a;split at hl
   .rename_i e;cases hl;exact .inl ⟨e.symm,by simp[w]⟩
   .rename_i d;rcases Qx c f.2 hl with⟨rfl,_⟩|⟨p,g,v⟩
    .exact absurd J d
    .exact .inr ⟨p,g,by simp only[w];rw[M (λ(e:k=c)=>g e.symm)];exact v⟩
  .rw[M a]at hl;split at hl
   .rename_i e;cases hl;subst e;exact .inr ⟨n,a,by simp[w]⟩
   .rename_i d;rcases Qx c f.2 hl with⟨rfl,g⟩|⟨p,g,v⟩
    .exact .inl ⟨J,by simp only[w,M a];exact g⟩
    .exact .inr ⟨p,g,by simp only[w,M d];exact v⟩
def fp i n{sl}{mem}{nx}{gd}(hi:f' i (1000000*nx)=ae)(hs:KK i n sl=ae)(hm:Du i n mem=ae)(CH:iv 1 i=ae:=by rfl):Wk ⟨sl,mem,nx,gd⟩ ⟨Dt i n sl,AX i n mem,nx,gd⟩:=by
 intro F s5 g W a h;have hi:i<1000000*nx:=by simpa[Nat.blt_eq]using hi
 let z:Gh:=⟨g.H,λd=>if d=i then g.γ n else g.γ d⟩;have Q:iT (λd=>d≠i) g z:=⟨cz.refl _,λd c=>M c⟩;have U:z.γ i=g.γ n:=s J;have r:∀d,d≠i->z.γ d=g.γ d:=λd c=>M c
 have hS:∀t X,St.kn ⟨Dt i n sl,AX i n mem,nx,gd⟩ (.s t)=some (.v X)->∃v,w t sl=some v/\X=Ds i n v:=by intro t X e;simp only[St.kn,XX,Option.map_map,cd]at e;let ⟨v,hv,he⟩:=e;cases he;exact⟨v,hv,J⟩
 have I:∀t b,St.kn ⟨Dt i n sl,AX i n mem,nx,gd⟩ (.m t)=some (.b b)->(t=i/\w n mem=some b)\/(t≠i/\t≠n/\w t mem=some b):=by intro t b e;simp only[St.kn,cd]at e;let ⟨v,hv,he⟩:=e;cases he;exact Qx t hm hv
 have R:∀t u b,w t mem=some b->jn F.N g W t b->z.γ u=g.γ t->jn F.N z W u b:=by
  intro t u b p A hγ;have B:=(XZ hm p).2;cases b with
  |box E bz cs=>
   let ⟨k,vs,rest,e1,o,L,e4,e5,e6⟩:=A
   exact⟨k,vs,rest,vP,o,bL.mono Q (λd c=>(B d c).1) L,e4,e5,by rw[hγ];exact e6⟩
  |vec E T ys=>
   rcases A with⟨e1,o⟩|⟨k,cap,vs,e1,o⟩
   .exact .inl ⟨vP,o⟩
   .exact .inr ⟨k,cap,vs,vP,o⟩
  |fX f first caps=>
   let ⟨us,ws,e1,o,L⟩:=A
   exact⟨us,ws,vP,dt.mono Q (λd c=>(B d<|fC _ c).1) o,dt.mono Q (λd c=>(B d<|jo _ c).1) L⟩
  |fz E cs=>
   let ⟨k,vs,rest,e1,o,L,e4,e5⟩:=A
   exact⟨k,vs,rest,vP,o,bL.mono Q (λd c=>(B d c).1) L,e4,e5⟩
 have l:∀t b,w t mem=some b->St.kn ⟨sl,mem,nx,gd⟩ (.m t)=some (.b b):=λt b p=>by simp[St.kn,p]
 refine⟨z,h.size,h.defers,?_,?_,?_,?_,?_,h.sub,h.below,h.le,h.fresh,λd c=>⟨(h.iJ d c).1,by have:=cY CH;rw[r d S];exact(h.iJ d c).2⟩⟩
 .intro t X e;obtain⟨v,hv,rfl⟩:=hS t X e;have A:=h.gM t v mq;have q:=XY hs hv;unfold Ds;split
  .rename_i k;have hki:k≠i:=by simpa[KJ]using q
   have O:a.tmps.getD t undef=g.γ k:=A;split
   .rename_i e';subst e';show _=z.γ i;rw[U];exact O
   .show _=z.γ k;rw[r k hki];exact O
  .rename_i kj;refine bI.mono Q (λd c=>?_) A;unfold KJ at q;split at q
   .rename_i k;exact absurd J<|kj k
   .have:=(rv.1 q) d c;simp at this;exact this.1
 .intro t b e;rcases I t b e with⟨rfl,p⟩|⟨D,Z,p⟩
  .exact R n t b p (h.db n b<|l n b p) U
  .exact R t t b p (h.db t b<|l t b p)<|r t D
 .intro t u b K k e e' G P;rcases I t b e with⟨rfl,p⟩|⟨D,Z,p⟩<;>rcases I u K e' with⟨rfl,y⟩|⟨V,Dp,y⟩
  .rfl
  .rw[U]at G;rw[r u V]at P;exact absurd (h.inj n u b K k (l _ _ p) (l _ _ y) G P)<|λe=>Dp e.symm
  .rw[U]at P;rw[r t D]at G;exact absurd (h.inj t n b K k (l _ _ p) (l _ _ y) G P) Z
  .rw[r t D]at G;rw[r u V]at P;exact h.inj t u b K k (l _ _ p) (l _ _ y) G P
 .intro key x e d c;cases key with
  |s t=>
   cases x with
   |b K=>simp only[St.kn,cd]at e;let ⟨_,_,he⟩:=e;cases he
   |v X=>
    obtain⟨v,hv,rfl⟩:=hS t X e
    have Y:=h.ar (.s t) (.v v) mq
    have c:d∈(Ds i n v).ar:=c
    unfold Ds at c
    split at c
    .split at c
     .simp only[AV.ar,C.ar,iu]at c;subst c;exact hi
     .exact Y d c
    .exact Y d c
  |m t=>
   cases x with
   |v X=>simp only[St.kn,cd]at e;let ⟨_,_,he⟩:=e;cases he
   |b K=>
    rcases I t K e with⟨rfl,p⟩|⟨D,Z,p⟩
    .exact h.ar (.m n) (.b K) (l n K p) d c
    .exact h.ar (.m t) (.b K) (l t K p) d c
 .intro t x e;cases x with
  |v X=>simp only[St.kn,cd]at e;let ⟨_,_,he⟩:=e;cases he
  |b K=>
   rcases I t K e with⟨rfl,p⟩|⟨D,Z,p⟩
   .exact hi
   .exact h.fD t _<|l t K p
def Wk.trans{a b c}(f:Wk a b)(k:Wk b c):Wk a c:=λF d g W ac i=>by let ⟨l,m⟩:=f F d g W ac i;exact k F d l W ac m
end Go.El
