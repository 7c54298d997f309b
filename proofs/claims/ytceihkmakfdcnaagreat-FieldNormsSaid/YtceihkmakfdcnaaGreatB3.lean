/- The engine, part 20: slices of boxes, as values. Own work; no condition. -/
import Derived.MapKept
import Derived.Carry
import Derived.Test.YtceihkmakfdcnaaGreatB2
set_option linter.all false
set_option maxHeartbeats 16000000
set_option maxRecDepth 100000
open Bool renaming true->ae,false->ah
open Go renaming Program->bI,World->cx,Value->aR,Oper->aX,Operand->eQ,IntKind->om,MapEntry->LD
open Go.Act renaming put->gT
open Go.Builtin renaming append_->xi,firstCells->yW,zeroCells->Rb
open Go.Deferred renaming ofValue->xq
open Go.El renaming ij->U
open Go.Instr renaming sliceBound->QB,sliceAt->Q5,sliceBounds->wZ,slice->X8,buildSlice->G8,findNow->ug,sameNow->Ry
open Go.MapKept renaming run_checkKey->ajV,run_findKey->Rz,run_getObj_map->RA,run_setObj_map->ajZ
open Go.Oper renaming wp->oo,upon->ny
open Go.Region renaming wanted->gx
open Go.Result renaming andThen->dx
open Go.Sem renaming run_bind->db,run->ll,run_pure->AT
open Go.World renaming block_lt_of_cell?->AZ
open List renaming length->Z,replicate->bl,drop->ay,take->M
open Nat renaming ble->dU
open Option renaming some->ad
open _root_ renaming Nat->V,Option->au,Int->Y,List->E
namespace Go.El
open Go Go.RowKit
def Lj(a:TT)(t:V):au V:=match U t a with
 |some b=>(match b.kind with
  | .sl e=>(match U e a with|some d=>ad d.size|none=>none)
  |_=>none)
 |none=>none
def Lk(a:TT)(t:V)(x i:AV):au (AV×Pr):=match x,i with
 | .c (.L id off len _),.c (.I _ k)=>(match Lj a t with
  |some sz=>ad (.c<|.P id<|off+Int.toNat k*sz,.and (.le 0 k)<|.lt k len)
  |none=>none)
 |_,_=>none
def xk(m:V):au AV->V->au (V×Pr)
 |none,d=>ad (d,.t)
 |some (.c<|.I _ k),_=>ad (Int.toNat k,.and (.le 0 k)<|.le k m)
 |_,_=>none
def Q4(f:TT)(t:V)(x:AV)(d a b:au AV):au (AV×Pr):=match x,Lj f t with
 | .c (.L id off len<|ad c),ad sz=>(match xk c b c with
  |some (m,p1)=>(match(if b.isSome&& !a.isSome then none else xk m a len)with
   |some (h,g)=>(match xk h d 0 with
    |some (l,i)=>ad (.c<|.L id (if m=l then off else off+l*sz) (h-l)<|ad<|m-l,.an p1<|.an g i)
    |none=>none)
   |none=>none)
  |none=>none)
 | .c (.L id off len none),ad _=>(match d,b with
  |none,none=>(match xk len a len with
   |some (h,p)=>ad (.c<|.L id off h none,p)
   |none=>none)
  |_,_=>none)
 | .c (.V<|.slice none 0 0),ad _=>(match b,xk 0 a 0 with
  |none,ad (h,p)=>(match xk h d 0 with
   |some (_,q)=>ad (.c<|.V<|.slice none 0 0,.an p q)
   |none=>none)
  |_,_=>none)
 |_,_=>none
def Ll(a:TT)(t:V)(x:AV):au AV:=match U t a with
 |some b=>(match b.kind with
  | .sl _=>(match x with
   | .c (.L _ _ len _)=>ad<|.c<|.I .i64 len
   |_=>none)
  |_=>none)
 |none=>none
def X7(a x b:au AV):au (AV×Pr):=match a,x,b with
 |some (.c<|.B ae),ad v,_=>ad (v,.t)
 |some (.c<|.B ah),_,ad v=>ad (v,.t)
 |_,_,_=>none
def D1(b:TT)(a:St):Op->au (AV×Pr)
 | .pick f x g=>X7 (a.ev f) (a.ev x)<|a.ev g
 | .indexAddr t x i=>(match a.ev x,a.ev i with|some v,ad w=>Lk b t v w|_,_=>none)
 | .slice t x k n o=>(match a.ev x,yD a k,yD a n,yD a o with|some v,ad l,ad h,ad m=>Q4 b t v l h m|_,_,_,_=>none)
 | .call ⟨.builtin .len,args,d⟩=>(match args.toList,d.toList with
  |[x],[t]=>(match a.ev x with|some v=>(match Ll b t v with|some u=>ad (u,.t)|none=>none)|none=>none)
  |_,_=>none)
 |_=>none
section
variable{P:bI}{tt:TT}{g:Gh}{W:cx}
def Lm(a:cq P tt=ae){t n}(h:Lj tt t=ad n):∃b i,P.underlying t=ad (.slice b)/\P.info? b=ad i/\i.size=n:=by
 refine Ds a ?_;unfold Lj at h;unfold wX;split at h
 .rename_i o d;split at h
  .rename_i b f;split at h
   .rename_i k l;have m:k.size=n:=He h;simp[d,f,l,m]
   .simp at h
  .simp at h
 .simp at h
def ajb(l:cq P tt=ae){t}{x i m}{p}(h:Lk tt t x i=ad (m,p))(T:p){v u}(L:a8 g x v)(hu:a8 g i u):(∃Q,(Instr.indexAt t v u).run P W= .ok Q W/\a8 g m Q)/\∀n∈m.ak,n∈x.ak:=by
 unfold Lk at h;split at h
 .rename_i n d f o X k;split at h
  .rename_i sz s;simp only[aq,bK]at h;obtain⟨rfl,rfl⟩:=h;let ⟨e,i,w,j,q⟩:=Lm l s;have B:u= .int X k:=hu;subst B;have a:0<=k/\k<(f:Y):=T;have H:∃b c,cy (g.γ n)=ad b/\v= .slice (ad ⟨b,d,none⟩) f c:=by
    cases o with
    |some c=>let ⟨b,K,h2⟩:=L;exact⟨b,c,K,h2⟩
    |none=>let ⟨r,b,c,K,h2,_⟩:=L;subst r;exact⟨b,c,by rw[K];rfl,h2⟩
   obtain⟨b,c,A,rfl⟩:=H;refine⟨⟨.pointer<|ad ⟨b,d+Int.toNat k*sz,none⟩,?_,b,A,J⟩,q9⟩;simp only[Instr.indexAt,asIntOf,db,run_underlying w,dx];simp[a,run_sizeOf j,q,lO]
  .simp at h
 .simp at h
def xl{m}{x}{d h}{p}(a:xk m x d=ad (h,p))(l:p){v}(b:yE g x v)(code:BoundsCode):
  (x=none/\v=none/\h=d)\/(∃u,x.isSome=ae/\v=ad u/\h<=m/\(QB u m code).run P W= .ok h W):=by
 unfold xk at a
 split at a
 .simp only[aq,bK]at a;cases v with
  |none=>exact .inl ⟨J,J,a.1.symm⟩
  |some u=>exact b.elim
 .rename_i n k;simp only[aq,bK]at a;obtain⟨rfl,rfl⟩:=a;cases v with
  |none=>exact b.elim
  |some u=>
   have f:u= .int n k:=b
   subst f
   have i:0<=k/\k<=(m:Y):=l
   refine .inr ⟨_,J,J,G,?_⟩
   simp[QB,asIntOf,i,ll,pure]
 .simp at a
def ajc(b7:cq P tt=ae){t}{x bN}{lo hi mx}{p}(h:Q4 tt t x lo hi mx=ad (bN,p))(hp:p){v}{vl vh vm}(hv:a8 g x v)
  (hl:yE g lo vl) (hh:yE g hi vh) (hm:yE g mx vm):
  (∃fw,(Q5 t v vl vh vm).run P W= .ok fw W/\a8 g bN fw)/\∀id∈bN.ak,id∈x.ak:=by
 unfold Q4 at h
 split at h
 .rename_i id A f c sz o;let ⟨e,i,s,w,N⟩:=Lm b7 o;split at h
  .rename_i m Y B;split at h
   .rename_i a p2 k;split at h
    .rename_i l p3 D;simp only[aq,bK]at h;obtain⟨rfl,rfl⟩:=h;let ⟨E,O⟩:=Pr.Gz hp;let ⟨H,F⟩:=Pr.Gz O;obtain⟨b,Z,rfl⟩:=hv;have K:¬(mx.isSome=ae/\hi.isSome=ah):=by intro R;rw[q (by simp[R.1,R.2])]at k;cases k
     have X:xk m hi f=ad (a,p2):=by rw[y (by intro R;simp only[cD,G3]at R;exact K R)]at k;exact k
     refine⟨⟨.slice (if m=l then ad ⟨b,A,none⟩else ad ⟨b,A+l*sz,none⟩) (a-l)<|m-l,?_,b,Z,?_⟩,q9⟩
     .have L:(wZ ae f c vl vh vm).run P W= .ok (l,a,m) W:=by
       unfold wZ;rcases xl (P:=P) (W:=W) B E hm .slice3Acap with⟨S,rfl,rfl⟩|⟨u1,S,rfl,_,U⟩
       .rcases xl (P:=P) (W:=W) X H hh .sliceAcap with⟨T,rfl,rfl⟩|⟨u2,T,rfl,_,I⟩
        .rcases xl (P:=P) (W:=W) D F hl .sliceB with⟨Q,rfl,rfl⟩|⟨u3,Q,rfl,_,V⟩<;>simp[*]
        .rcases xl (P:=P) (W:=W) D F hl .sliceB with⟨Q,rfl,rfl⟩|⟨u3,Q,rfl,_,V⟩<;>simp[*]
       .rcases xl (P:=P) (W:=W) X H hh .slice3B with⟨T,rfl,rfl⟩|⟨u2,T,rfl,_,I⟩
        .exact absurd ⟨S,by simp[T]⟩ K
        .rcases xl (P:=P) (W:=W) D F hl .slice3C with⟨Q,rfl,rfl⟩|⟨u3,Q,rfl,_,V⟩<;>simp[*]
      simp only[Q5,db,run_underlying s,dx,X8,L,run_sizeOf w,N];split<;>simp[pure,lO]
     .split<;>rfl
    .simp at h
   .simp at h
  .simp at h
 .rename_i id A f sz o;let ⟨e,i,s,w,N⟩:=Lm b7 o;split at h
  .split at h
   .rename_i a Y B;simp only[aq,bK]at h;obtain⟨rfl,rfl⟩:=h;obtain⟨h0,b,c,hγ,rfl,hle⟩:=hv;subst h0;have yU:vl=none:=by cases vl with|none=>rfl|some _=>exact hl.elim
    have M:vm=none:=by cases vm with|none=>rfl|some _=>exact hm.elim
    subst yU M;have j:=QA (P:=P) (W:=W) (n:=f) (x:=hi) (d:=f) (h:=a) (p:=Y) (by rw[<-B];cases hi with|none=>rfl|some lz=>cases lz with|c lz=>cases lz<;>rfl|_=>rfl) hp hh c hle .sliceAcap;have r:a<=f:=by rcases j with⟨_,_,e⟩|⟨_,_,h,_⟩<;>omega
    refine⟨⟨.slice (ad ⟨b,0,none⟩) a c,?_,J,b,c,hγ,J,G⟩,q9⟩;have L:(wZ ae f c none vh none).run P W= .ok (0,a,c) W:=by unfold wZ;rcases j with⟨_,rfl,rfl⟩|⟨u,rfl,_,U⟩<;>simp[*]
    simp only[Q5,db,run_underlying s,dx,X8,L,run_sizeOf w,N];simp[pure,lO]
   .simp at h
  .simp at h
 .rename_i sz o;let ⟨e,i,s,w,N⟩:=Lm b7 o;split at h
  .rename_i a Y B;split at h
   .rename_i l p2 k;simp only[aq,bK]at h;obtain⟨rfl,rfl⟩:=h;let ⟨E,H⟩:=Pr.Gz hp;have tZ:v= .slice none 0 0:=hv;subst tZ;have M:vm=none:=by cases vm with|none=>rfl|some _=>exact hm.elim
    subst M;refine⟨⟨.slice none 0 0,?_,J⟩,q9⟩;have L:(wZ ae 0 0 vl vh none).run P W= .ok (0,0,0) W:=by
     unfold wZ;rcases xl (P:=P) (W:=W) B E hh .sliceAcap with⟨_,rfl,rfl⟩|⟨u1,_,rfl,Q6,U⟩
     .rcases xl (P:=P) (W:=W) k H hl .sliceB with⟨_,rfl,rfl⟩|⟨u2,_,rfl,r,I⟩
      .simp[*]
      .have:l=0:=by omega
       subst this;simp[*]
     .have:a=0:=by omega
      subst this;rcases xl (P:=P) (W:=W) k H hl .sliceB with⟨_,rfl,rfl⟩|⟨u2,_,rfl,r,I⟩
      .simp[*]
      .have:l=0:=by omega
       subst this;simp[*]
    simp only[Q5,db,run_underlying s,dx,X8,L,run_sizeOf w,N];simp[pure]
   .simp at h
  .simp at h
 .simp at h
def ajd(d:cq P tt=ae){t r:V}{x f:AV}(h:Ll tt t x=ad f){v:aR}(o:a8 g x v):(Builtin.len_ #[t] r #[v]).run P W= .ok (match f with| .c (.I k n)=> .int k n|_=>undef) W/\(∃n:Y,f= .c (.I .i64 n)):=by
 unfold Ll at h;split at h
 .rename_i B p;split at h
  .rename_i e s;split at h
   .rename_i C u i l _;simp only[aq]at h;subst h;have h2:=(eK d p).kind;rw[s]at h2;have m:∃a c,v= .slice a i c:=by
     cases l with
     |some c=>let ⟨b,w,h2⟩:=o;exact⟨_,c,h2⟩
     |none=>let ⟨H,b,c,w,h2,_⟩:=o;exact⟨_,c,h2⟩
    obtain⟨a,c,rfl⟩:=m;exact⟨KJ,_,J⟩
   .simp at h
  .simp at h
 .simp at h
def X9(b7:cq P tt=ae){ops}{i}{o:aX}{d:V}(ho:ops[i]? =ad o)(hg:o.guard=none)(hd:o.dst=ad d){n}(df:d<n)
 {T}{x}{p}(b:D1 tt T o.op=ad (x,p)) (hp:p) new:ig P n ops i (ot T o.op) [(.s d,ad<|.v x)] new:=by
 refine sB ho hg hd df _ x new ?_
 intro F j σ g W a k R
 have H:∀y∈o.op.operands,∀N∈cH T y,σ N.1=ad N.2:=by intro y X N S;exact R N<|iV.2 ⟨y,by simpa using X,S⟩
 have f:∀y∈o.op.operands,∀u,T.ev y=ad u->a8 g u (a.eval y)/\∀A∈u.ak,j A:=by intro y X u O;exact⟨dq k T y u O<|H y X,q8 k T y u O<|H y X⟩
 generalize L:o.op=op at b f H
 unfold D1 at b
 split at b
 .rename_i c y z;unfold X7 at b;split at b
  .rename_i v U X;simp only[aq,bK]at b;obtain⟨rfl,rfl⟩:=b;have Y:a.eval c= .bool ae:=(f c gU _ U).1;have K:=f y gU _ X;exact⟨K.2,_,by simp[execOp,L,Y,asBool,ll,pure],K.1⟩
  .rename_i v U X;simp only[aq,bK]at b;obtain⟨rfl,rfl⟩:=b;have Y:a.eval c= .bool ah:=(f c gU _ U).1;have K:=f z gU _ X;exact⟨K.2,_,by simp[execOp,L,Y,asBool,ll,pure],K.1⟩
  .simp at b
 .rename_i t y z;split at b
  .rename_i v w G hw;have K:=f y gU _ G;have Z:=f z gU _ hw;let ⟨⟨u,B,Q⟩,I⟩:=ajb (P:=P) (W:=W) b7 b hp K.1 Z.1;exact⟨λA D=>K.2 A<|I A D,u,by simp[execOp,L,B,ll,pure],Q⟩
  .simp at b
 .rename_i t y lo hi mx;split at b
  .rename_i v l h m G hl hh I;have K:=f y gU _ G;have Z:=GH k T lo l hl<|λq hq=>H q GJ;have h3:=GH k T hi h hh<|λq hq=>H q GJ;have h4:=GH k T mx m I<|λq hq=>H q GJ;let ⟨⟨u,B,Q⟩,I⟩:=ajc (P:=P) (W:=W) b7 b hp K.1 Z h3 h4;exact⟨λA D=>K.2 A<|I A D,u,by simp[execOp,L,B,ll,pure],Q⟩
  .simp at b
 .rename_i args iz;split at b
  .rename_i y t ha ht;have E:args= #[y]:=GK;have M:iz= #[t]:=QC;subst E M;split at b
   .rename_i v G;split at b
    .rename_i u O;simp only[aq,bK]at b;obtain⟨rfl,rfl⟩:=b;have K:=f y Dt _ G;obtain⟨B,n',rfl⟩:=ajd (P:=P) (W:=W) (r:=o.type) b7 O K.1;exact⟨q9,.int .i64 n',DY L (λcs=>by have e:(#[y]:Array eQ).map a.eval= #[a.eval y]:=ax;rw[e];simp only[Go.builtin,db,B,dx];rfl),J⟩
    .simp at b
   .simp at b
  .simp at b
 .simp at b
end
section
variable{P:bI}{tt:TT}
def Q7{ops}{i}{o:aX}{d:V}(ho:ops[i]? =ad o)(hg:o.guard=none)(hd:o.dst=ad d){n}(df:d<n){aU}rd cs sz len x(p:V)
  (h:∀(fW:dm)(f:V->Prop)(σ:Kn)(g:Gh)(W:cx)(a:Act),aJ fW f σ g W a->(∀kx∈rd,σ kx.1=ad kx.2)->
   (∀B∈cp cs,f B)/\∃(vs rest:E aR)(l:V)(W1:cx),aY g cs vs/\(execOp a.eval o).run P W= .ok (.value<|.slice (ad ⟨W.heap.size,0,none⟩) len l) {W1 with heap:=W.heap.push<|.cells (vs++rest).toArray aU (0,0)}/\
    W1.os=W.os/\W1.tape=W.tape/\W1.output=W.output/\(∀ew,x=ad ew->l=ew)/\(sz≠0->Z (vs++rest)=l*sz)/\len<=l):
  ig P n ops i rd [(.s d,ad<|.v<|.c<|.L p 0 len x),(.m p,ad<|.b<|.box aU sz cs)] p:=by
 intro fW jZ Q f σ g W a K j aS N S
 let ⟨hm,vs,rest,l,W1,U,r,Y,e2,e3,z,A,hlen⟩:=h fW f σ g W a aS N
 unfold wpOp
 simp only[ho,gx,hg,cd]
 refine .inl ?_
 unfold oo
 rw[r]
 simp only[ny,hd]
 have O:d<a.tmps.size:=mm
 let q:Gh:=⟨g.H,λB=>if B=p then .slice (ad ⟨W.heap.size,0,none⟩) 0 l else g.γ B⟩
 have T:q.γ p= .slice (ad ⟨W.heap.size,0,none⟩) 0 l:=by simp[q]
 have D:fL f g q:=⟨cE.refl _,λB w=>by
  have:B≠p:=λe=>j<|e▸w
  simp[q,this]⟩
 have X:∀o,g.H W.heap.size o=none:=by
  intro o;cases hv:g.H W.heap.size o with
  |none=>rfl
  |some v=>
   have:=AZ W _<|aS.sub _ _ _ hv
   simp at this
 have G:Sub g.H {W1 with heap:=W.heap.push<|.cells (vs++rest).toArray aU (0,0)}:=by have:=AY aS.sub<|.cells (vs++rest).toArray aU (0,0);exact this
 refine S q _ _<|aS.step (chg:=λ_=>False) (g':=q) ⟨D,λ_ _ _=>rfl,G,ax,λk M _=>Dy W _ k M,Y,e2,e3⟩ _ p j nz aS.defers ?_ (λ_ h=>h.elim) ?_ ?_ ?_ ?_
 .intro t ht;have R:d≠t:=sD;simp[gT,kH R]
 .intro t u ht;simp only[aC]at ht;split at ht
  .rename_i e;simp only[Key.s.injEq]at e;simp only[aq,Info.v.injEq]at ht;subst e;subst ht;have I:(a.put (ad d)<|.slice (ad ⟨W.heap.size,0,none⟩) len l).tmps.getD d undef= .slice (ad ⟨W.heap.size,0,none⟩) len l:=by simp[gT,O]
   show cN q _ _;rw[I];cases x with
   |some ew=>have:=z ew J;subst this;exact⟨W.heap.size,by rw[T];rfl,J⟩
   |none=>exact⟨J,W.heap.size,l,T,J,hlen⟩
  .split at ht
   .simp at ht
   .simp at ht
 .intro B b ht;simp only[aC,reduceCtorEq,bQ]at ht;split at ht
  .rename_i e;simp only[Key.m.injEq]at e;subst e;simp only[aq,Info.b.injEq]at ht;subst ht;refine⟨⟨W.heap.size,vs,rest,by rw[T];rfl,ax,aY.mono D hm U,.inl aS.below.size,X,λh0=>⟨l,T,A h0⟩⟩,.inr ⟨J,λk M=> .inl ?_⟩⟩;rw[T]at M;simp only[cy,aq]at M;omega
  .simp at ht
 .intro k y ht;simp only[aC]at ht;split at ht
  .simp only[aq]at ht;subst ht;intro B w;simp[Info.ak,AV.ak,C.ak]at w;exact .inr w
  .split at ht
   .simp only[aq]at ht;subst ht;exact λB w=> .inl<|hm B w
   .simp at ht
 .intro B y ht;simp only[aC,reduceCtorEq,bQ]at ht;split at ht
  .rename_i e;simp only[Key.m.injEq]at e;exact .inr e.symm
  .simp at ht
def aje(b7:cq P tt=ae){B}{i}{o:aX}{d:V}(ho:B[i]? =ad o)(hg:o.guard=none)(hd:o.dst=ad d){n}(df:d<n){t}{x bN}(bO:o.op= .makeSlice t x bN)
 {st}{m:V} {k k2}(hx:st.ev x=ad (.c<|.I k (m:Y))) (hy:st.ev bN=ad (.c<|.I k2 (m:Y))) {aU}{ti f:TI} (nF:U t tt=ad ti) (hk:ti.kind= .sl aU) (m0:U aU tt=ad f) (X':0<f.size) (hb:m*f.bytes<=16777216) (mr:m<=16777216) (l:V):
  ig P n B i (ot st o.op) [(.s d,ad<|.v<|.c<|.L l 0 m<|ad m),(.m l,ad<|.b<|.box aU 0<|DU (f.zero.map ZV.pR) m)] l:=by
 refine Q7 ho hg hd df _ _ _ _ _ l ?_
 intro F j R g W a u C
 have N:a.eval x= .int k (m:Y):=dq u st x _ hx<|λq cc=>C q QV
 have r:a.eval bN= .int k2 (m:Y):=dq u st bN _ hy<|λq cc=>C q QV
 have M:=(eK b7 nF).kind
 rw[hk]at M
 let ⟨inf,H,K,Q,z,A,xc⟩:=(eK b7 m0).info
 have w:Z (f.zero.map ZV.eY)=f.size:=Q2
 have T:z.cells=(f.zero.map ZV.eY).toArray:=DD
 have X:(f.zero.map ZV.eY)≠[]:=by intro e;rw[e]at w;simp at w;omega
 have D:(inf.bytes:Y)*(m:Y)<=281474976710656:=by
  rw[Q];have:(f.bytes:Y)*(m:Y)=((m*f.bytes:V):Y):=by rw[hJ];simp
  rw[this];omega
 have h:=run_make (P:=P) W t aU inf z M H A k k2 m m G G D G
 refine⟨Q1,(bl m<|f.zero.map ZV.eY).flatten,[],m,W,Le (yK g f.zero) m,?_,J,J,J,λc O=>He O,ax,aT _⟩
 rw[execOp,bO]
 have p:madeCells z.cells (m*inf.size)=((bl m<|f.zero.map ZV.eY).flatten).toArray:=by rw[K,T,<-w,<-K6 _ m X];rfl
 simp only[cr]at h
 rw[p]at h
 simp only[N,r,db,h,dx,ik]
 rfl
def ajf(b7:cq P tt=ae){fW}{l:V->Prop}{σ}{g}{W}{a}(H:aJ fW l σ g W a){st}{o}{t b}{d}(bO:o.op= .buildSlice t b d){aU}{ei}{w}(X':0<ei.size)(aiX:b*ei.size<=16777216)
  (m:vN tt st t b d.toList=ad (aU,ei,w)) (fE:∀kx∈ot st o.op,σ kx.1=ad kx.2):
  ∃u:E aR,(execOp a.eval o).run P W= .ok (.value<|.slice (ad ⟨W.heap.size,0,none⟩) b b) {W with heap:=W.heap.push<|.cells u.toArray aU (0,0)}/\aY g w u/\Z u=b*ei.size/\∀id∈cp w,l id:=by
 unfold vN at m
 split at m
 .rename_i ti j;split at m
  .rename_i O S;split at m
   .rename_i k m0;split at m
    .rename_i cs q;simp only[aq,bK]at m;obtain⟨rfl,rfl,rfl⟩:=m;have R:=(eK b7 j).kind;rw[S]at R;let ⟨inf,vD,K,_,z,hz,xc⟩:=(eK b7 m0).info;have L:z.cells=(k.zero.map ZV.eY).toArray:=DD;let ⟨u,Q,iZ,r,A⟩:=GX H st (vM k.size 0 b) (λi=>ad (i*k.size,k.size)) (λi x h=>by rw[Ld _ _ _ _ _ h];simp) d.toList _ _ _ q (Le (yK g k.zero) b) (λp U kx D=>fE kx<|by rw[bO];refine iV.2 ⟨p.2,?_,D⟩;simp only[Op.operands,kF];exact⟨p,U,J⟩) Q1;have n:Z (k.zero.map ZV.eY)=k.size:=Q2;have T:Z u=b*k.size:=by rw[r,XO,n]
     refine⟨u,?_,iZ,T,A⟩;have B:execOp a.eval o=(do pure (.value<|<-G8 t b (d.map λ(i,x)=>(i,a.eval x)))):=vC;have X:(d.map λ(i,x)=>(i,a.eval x)).toList=d.toList.map λp=>(p.1,a.eval p.2):=ax
     have I:(zeroValue O).run P W= .ok z W:=QN;have s:((Array.range<|b*k.size).map<|λi=>(k.zero.map ZV.eY).toArray[i%(k.zero.map ZV.eY).toArray.size]!)=((bl b<|k.zero.map ZV.eY).flatten).toArray:=by have:=K6 (k.zero.map ZV.eY) b (by intro e;rw[e]at n;simp at n;omega);rw[n]at this;exact this
     have Y:(G8 t b<|d.map λ(i,x)=>(i,a.eval x)).run P W= .ok (.slice (ad ⟨W.heap.size,0,none⟩) b b) {W with heap:=W.heap.push<|.cells u.toArray O (0,0)}:=by
      unfold G8;rw[db,run_underlying R];simp only[dx];rw[db,run_sizeOf vD];simp only[dx,K];rw[y G];by_cases c:b*k.size=0
      .have C:b=0:=by
        rcases Nat.mul_eq_zero.1 c with h|h
        .exact h
        .omega
       subst C;have M:u=[]:=gK (by rw[T];simp);subst M;have v:=Q;simp only[DV,List.flatten_nil]at v;have N:∀f:V->aR,(Array.range 0).map f= #[]:=λf=>by simp
       simp only[qf,cd,pure_bind,N,X,v];rfl
      .rw[y c];simp only[pure_bind,db,I,dx,L,s,X,Q];rfl
     rw[B,db,Y];rfl
    .simp at m
   .simp at m
  .simp at m
 .simp at m
def ajg(B:cq P tt=ae){p}{i}{o:aX}{d:V}(ho:p[i]? =ad o)(hg:o.guard=none)(hd:o.dst=ad d){n}(H:d<n){t f:V}{h}(Q:o.op= .buildSlice t f h)
 {st}{aU}{T}{cs}(u:0<T.size) (k:f*T.size<=16777216) (hv:vN tt st t f h.toList=ad (aU,T,cs)) (l:V):
  ig P n p i (ot st o.op) [(.s d,ad<|.v<|.c<|.L l 0 f<|ad f),(.m l,ad<|.b<|.box aU 0 cs)] l:=by
 refine Q7 ho hg hd H _ _ _ _ _ l ?_
 intro F C j g W a w K
 let ⟨us,x,X,hl,hm⟩:=ajf B w Q u k hv K
 exact⟨hm,us,[],f,W,X,by simpa using x,J,J,J,λc e=>He e,ax,aT _⟩
end
def ua(b:St)(sz:V):AV->au (V×E C×E V)
 | .c (.L id off len _)=>(match U id b.mem with
  |some (.box _ _ cs)=>if off+len*sz<=Z cs then ad (len,(ay off cs).take<|len*sz,[id])else none
  |some (.fz _ cs)=>if off+len*sz<=Z cs then ad (len,(ay off cs).take<|len*sz,[id])else none
  |_=>none)
 | .c (.S T a)=>if T.n=sz then ad (Z a,a.flatMap<|av T,[])else none
 | .c (.V<|.slice none 0 0)=>ad (0,[],[])
 |_=>none
section
variable{P:bI}{tt:TT}
def Q8{u}(h:nE u=ae):u.oneCell'=ae:=by revert h;cases u<;>simp[nE,Value.oneCell']
def Ya{T:ET}:∀(b:E T.den),∀a∈b.flatMap (av T),kd a=ae
 |[],a,h=>by simp at h
 |d::b,a,h=>by
  simp only[lq,be]at h;rcases h with h|h
  .exact Dz T d a h
  .exact Ya b a h
def Yb{T:ET}:∀(b:E T.den),cp (b.flatMap<|av T)=[]
 |[]=>rfl
 |f::b=>by
  refine QZ.2 λd a=>?_
  rw[lq]at a;rcases Dw _ _ d a with h|h
  .rw[GP]at h;cases h
  .rw[Yb b]at h;cases h
def Yc{g:Gh}(T:ET):∀(xs:E T.den)(vs:E aR),Z vs=Z xs*T.n->(∀i(h:i<Z xs),c6 g.H T xs[i] ((ay (i*T.n) vs).take T.n))->aY g (xs.flatMap<|av T) vs
 |[],vs,hl,_=>by have:vs=[]:=gK tG;subst this;rfl
 |x::xs,vs,hl,h=>by rw[lq];have a:=h 0 ax;simp only[qf,qh,vw]at a;have:=aY.append (AJ (g:=g) T x _ a) (Yc T xs (ay T.n vs) (by simp at hl⊢;rw[hl,gy];omega)<|λi b=>by have:=h (i+1) (by simpa using b);simp only[AW]at this;rw[pY];rw[(GG:T.n+i*T.n=(i+1)*T.n)];exact this);rwa[sI]at this
def Bj{fW}{p:V->Prop}{σ}{g}{W}{a}(i:aJ fW p σ g W a){st}{y}{sz m}{cs}{ids}(h:ua st sz y=ad (m,cs,ids)){v}(Q:a8 g y v)
  (fE:∀L∈ids,∀b,U L st.mem=ad b->σ (.m L)=ad (.b b)) {t cz}(hu:P.underlying t=ad (.slice cz)) (sJ:cs.all kd=ae):
  ∃H:E aR,Src P sz t v m H W/\aY g cs H/\(∀L∈cp cs,p L)/\∀u∈H,nE u=ae:=by
 have n:∀H,aY g cs H->∀u∈H,nE u=ae:=λH K=>K.one<|λc hc=>mn.1 sJ c hc
 unfold ua at h
 split at h
 .rename_i L d f X;split at h
  .rename_i aU bz q M;split at h
   .rename_i G;simp only[aq,bK]at h;obtain⟨rfl,rfl,rfl⟩:=h;have s:=fE L ax _ M;let ⟨b,vs,rest,k,hh,K,hN,hz,uc⟩:=i.cA L _ s;have w:∃c,v= .slice (ad ⟨b,d,none⟩) f c:=by
     cases X with
     |some c=>
      let ⟨N,o,h2⟩:=Q
      rw[k]at o
      cases o
      exact⟨c,h2⟩
     |none=>
      let ⟨O,N,c,o,h2,_⟩:=Q
      rw[o]at k
      simp only[cy,aq]at k
      subst k O
      exact⟨c,h2⟩
    obtain⟨c,rfl⟩:=w;have l:aY g ((ay d q).take<|f*sz) ((ay d vs).take<|f*sz):=(K.drop d).take _;have R:=K.length;have x:Z ((ay d vs).take<|f*sz)=f*sz:=bX;refine⟨_,Src.ofSlice W hu ⟨b,d,none⟩ f c _ x ?_<|λu r=>Q8<|n _ l u r,l,?_,n _ l⟩
    .intro j u S;let ⟨z,B⟩:=pS.1 S;simp only[rf,tH]at B;have A:d+j<Z vs:=by rw[x]at z;omega
     simp only[lO];rw[vz hh (d+j) bX,w6 A,B]
    .intro D C;exact i.ak _ _ s D<|GB _ _ _<|Dr _ _ _ C
   .simp at h
  .rename_i aU q M;split at h
   .rename_i G;simp only[aq,bK]at h;obtain⟨rfl,rfl,rfl⟩:=h;have s:=fE L ax _ M;let ⟨b,vs,rest,k,hh,K,hN,hz⟩:=i.cA L _ s;have w:∃c,v= .slice (ad ⟨b,d,none⟩) f c:=by
     cases X with
     |some c=>
      let ⟨N,o,h2⟩:=Q
      rw[k]at o
      cases o
      exact⟨c,h2⟩
     |none=>
      let ⟨O,N,c,o,h2,_⟩:=Q
      rw[o]at k
      simp only[cy,aq]at k
      subst k O
      exact⟨c,h2⟩
    obtain⟨c,rfl⟩:=w;have l:aY g ((ay d q).take<|f*sz) ((ay d vs).take<|f*sz):=(K.drop d).take _;have R:=K.length;have x:Z ((ay d vs).take<|f*sz)=f*sz:=bX;refine⟨_,Src.ofSlice W hu ⟨b,d,none⟩ f c _ x ?_<|λu r=>Q8<|n _ l u r,l,?_,n _ l⟩
    .intro j u S;let ⟨z,B⟩:=pS.1 S;simp only[rf,tH]at B;have A:d+j<Z vs:=by rw[x]at z;omega
     simp only[lO];rw[vz hh (d+j) bX,w6 A,B]
    .intro D C;exact i.ak _ _ s D<|GB _ _ _<|Dr _ _ _ C
   .simp at h
  .simp at h
 .rename_i T ys;split at h
  .rename_i hT;simp only[aq,bK]at h;obtain⟨rfl,rfl,rfl⟩:=h;subst hT;let ⟨H,o,h2,h3,h4⟩:=XY (P:=P) Q;have I:∀Y:cx,(Builtin.lenOf v).run P Y= .ok (Z ys) Y:=by obtain⟨a,X,rfl,_⟩:=Q;intro Y;rfl
   exact⟨H,⟨.inl ⟨_,hu⟩,I,o W i.sub,o W.drew i.sub,h2,λu hu=>Q8<|h4 u hu⟩,Yc T ys H h2 h3,by rw[Yb];simp,h4⟩
  .simp at h
 .simp only[aq,bK]at h;obtain⟨rfl,rfl,rfl⟩:=h;have w:v= .slice none 0 0:=Q;subst w;exact⟨[],Src.ofNil W hu 0,J,by simp[cp],ax⟩
 .simp at h
def Yd{W}{l n ty o}{a:TypeInfo}(h:P.underlying l=ad (.slice o))(w:P.info? o=ad a){b off sLen sCap}{p}{m}
 {d vs}{s}(i:Src P a.size n p m d W) (x:W.heap[b]? =ad (.cells vs.toArray s (0,0))) (f:∀u∈d,nE u=ae) (k:sLen+m<=sCap) (t:off+sLen*a.size+Z d<=Z vs):
  (xi #[l,n] ty #[.slice (ad ⟨b,off,none⟩) sLen sCap,p]).run P W= .ok (.slice (ad ⟨b,off,none⟩) (sLen+m) sCap) (iH W b (cF vs d<|off+sLen*a.size) s):=by
 have g:=yH (P:=P) b d W vs (off+sLen*a.size) 0 x G f
 simp only[jv]at g
 rcases i.kind with⟨B,v⟩|v<;>
  simp[xi,run_underlying h,run_underlying v,sizeOf,typeInfo,w,i.len,k,i.cells,lO,g]
end
section
variable{P:bI}{tt:TT}
structure D2(P:bI)(b t2 E:TypeId)(sz:V)(bytes:V):Prop where
 u1:P.underlying b=ad (.slice E)
 u2:∃e,P.underlying t2=ad (.slice e)
 info:∃a z,P.info? E=ad a/\a.size=sz/\a.bytes=bytes/\a.zero=ad z/\z.cells.size=sz
 pos:0<sz
def Q9(a:St)(sz:V):AV->au (V×V×E C×E V)
 | .c (.L id off len<|ad b)=>(match U id a.mem with
  |some (.box _ _ cs)=>if off+len*sz<=Z cs then ad (len,b,(ay off cs).take<|len*sz,[id])else none
  |_=>none)
 | .c (.V<|.slice none 0 0)=>ad (0,0,[],[])
 |_=>none
def xm{st}{ids}{σ:Kn}(h:∀f∈fM st ids,σ f.1=ad f.2):∀a∈ids,∀b,U a st.mem=ad b->σ (.m a)=ad (.b b):=by intro a d b g;exact h (.m a,.b b)<|iV.2 ⟨a,d,by simp[g]⟩
def Ln{a:Act}{o}{x b}{f g}(d:o.op= .call ⟨.builtin .append,#[x,b],#[f,g]⟩){W i}{v}(h:(xi #[f,g] o.type #[a.eval x,a.eval b]).run P W= .ok v i):(execOp a.eval o).run P W= .ok (.value v) i:=by refine DY d<|λk=>?_;have e:(#[x,b]:Array eQ).map a.eval= #[a.eval x,a.eval b]:=ax;rw[e];simp only[Go.builtin,db,h,dx];rfl
def Ye{ops}{i}{o:aX}{d:V}(ho:ops[i]? =ad o)(hg:o.guard=none)(hd:o.dst=ad d){n}(df:d<n){x bN}{t1 t2}(bO:o.op= .call ⟨.builtin .append,#[x,bN],#[t1,t2]⟩)
 {H}{aU}{sz w}(hT:D2 P t1 t2 aU sz w) {vx vy:AV} (hx:H.ev x=ad vx) (hy:H.ev bN=ad vy) {len c m:V} {cb cs:E C} {ib is:E V} (p:Q9 H sz vx=ad (len,c,cb,ib)) (hs:ua H sz vy=ad (m,cs,is)) (sJ:cs.all kd=ae)
  (Hf:c<len+m) (Q:((len+m)+(len+m)/4+192)*w<=281474976710656) (ajh:len+m<=140737488355328) (T:V):
  ig P n ops i (cH H x++cH H bN++fM H (ib++is)) [(.s d,ad<|.v<|.c<|.L T 0 (len+m) none),(.m T,ad<|.b<|.box aU sz<|cb++cs)] T:=by
 refine Q7 ho hg hd df _ _ _ _ _ T ?_
 intro F e σ g W a k q
 have D:=dq k H x _ hx<|λI cc=>q I dT
 have tV:=dq k H bN _ hy<|λI cc=>q I dT
 have M:=xm (st:=H) (ids:=ib++is) (σ:=σ)<|λI cc=>q I dT
 let ⟨e2,iZ⟩:=hT.u2
 let ⟨inf,z,N,vO,O,xj,tT⟩:=hT.info
 let ⟨us,yX,D3,ry,xn⟩:=Bj (P:=P) k hs tV (λK r b p=>M K (gI _ r) b p) iZ sJ
 have A:∃(base:au Addr)(f:E aR),a.eval x= .slice base len c/\aY g cb f/\Z f=len*sz/\(∀K∈cp cb,e K)/\(yW inf.size len<|.slice base len c).run P W.drew= .ok f.toArray W.drew:=by
  unfold Q9 at p;split at p
  .rename_i K t l c';split at p
   .rename_i E' bz oQ hl;split at p
    .rename_i Lo;simp only[aq,bK]at p;obtain⟨rfl,rfl,rfl,rfl⟩:=p;have R:=M K ax _ hl;let ⟨b,vs,rest,hγ,hh,hr,hN,hz,uc⟩:=k.cA K _ R;let ⟨b',h1,h2⟩:=D;rw[hγ]at h1;cases h1;have yU:=hr.length;have B:Z ((ay t vs).take<|l*sz)=l*sz:=bX;refine⟨_,(ay t vs).take<|l*sz,h2,(hr.drop t).take _,B,?_,?_⟩
     .intro tY S;exact k.ak _ _ R tY<|GB _ _ _<|Dr _ _ _ S
     .rw[vO];refine run_firstCells_some W.drew sz l ⟨b,t,none⟩ l c' _ B ?_;intro j u hj;let ⟨Dh,U⟩:=pS.1 hj;simp only[rf,tH]at U;have Hg:t+j<Z vs:=by rw[B]at Dh;omega
      simp only[lO];have Hc:W.drew.heap[b]? =ad (.cells (vs++rest).toArray E' (0,0)):=hh;rw[vz Hc (t+j) bX,w6 Hg,U]
    .simp at p
   .simp at p
  .simp only[aq,bK]at p;obtain⟨rfl,rfl,rfl,rfl⟩:=p;have tZ:a.eval x= .slice none 0 0:=D;exact⟨none,[],tZ,J,ax,by simp[cp],run_firstCells_none W.drew _ 0 0 0⟩
  .simp at p
 let ⟨base,f,yY,hro,G',Q',Ra⟩:=A
 have hr:=run_append_grow_src (P:=P) W t1 t2 o.type aU inf z hT.u1 N xj base len c f Ra (a.eval bN) m us Lp Hf G (growslice_fits_wide Hf<|by rw[O];exact Q)
 have Y:=grownCap_ge W (len+m) c aU
 refine⟨?_,f++us,(Rb z.cells<|grownCap W (len+m) c aU-(len+m)).toList,grownCap W (len+m) c aU,W.drew,hro.append D3,?_,J,J,J,ax,λ_=>?_,Y⟩
 .intro K r;rcases Dw _ _ K r with h|h
  .exact Q' K h
  .exact ry K h
 .refine Ln bO ?_;rw[yY,hr];have X:(f++us).toArray++Rb z.cells (grownCap W (len+m) c aU-(len+m))=(f++us++(Rb z.cells<|grownCap W (len+m) c aU-(len+m)).toList).toArray:=by apply Du;simp
  rw[X];rfl
 .have B:=yX.newsLen;simp only[iX,G',B,Ha,size_zeroCells,tT,<-gy];congr 1;omega
def ajj{m}{i}{o:aX}{d:V}(ho:m[i]? =ad o)(hg:o.guard=none)(hd:o.dst=ad d){n}(H:d<n){x B}{t1 t2}(L:o.op= .call ⟨.builtin .append,#[x,B],#[t1,t2]⟩)
 {f}{aU}{sz k}(Q:D2 P t1 t2 aU sz k) {vy:AV} (hx:f.ev x=ad (.c<|.V<|.slice none 0 0)) (hy:f.ev B=ad vy) {cs:E C} {is:E V} (hs:ua f sz vy=ad (0,cs,is)) (T:cs.all kd=ae) (p:V):
  ig P n m i (cH f x++cH f B++fM f is) [(.s d,ad<|.v<|.c<|.V<|.slice none 0 0)] p:=by
 refine sB ho hg hd H _ _ p ?_
 intro F K A g W a b l
 have X:a.eval x= .slice none 0 0:=dq b f x _ hx<|λt cc=>l t dT
 have e:=dq b f B _ hy<|λt cc=>l t dT
 have j:=xm (st:=f) (ids:=is) (σ:=A)<|λt cc=>l t dT
 let ⟨O,iZ⟩:=Q.u2
 let ⟨inf,z,u,w,q,D,G⟩:=Q.info
 let ⟨us,h,I,M,N⟩:=Bj (P:=P) b hs e j iZ T
 refine⟨q9,.slice none 0 0,Ln L ?_,J⟩
 rw[X]
 have r:=h.cells
 rw[<-w]at r
 simp[xi,run_underlying Q.u1,run_underlying iZ,sizeOf,typeInfo,u,h.len]
 rw[r]
 rfl
end
section
variable{P:bI}{tt:TT}
def Hh{a:Act}{d t}{v}{f:E (Key×au Info)}{x}(ht:aC ((.s d,x)::f) (.s t)=none):(a.put (ad d) v).tmps.getD t undef=a.tmps.getD t undef:=by have b:d≠t:=sD;simp[gT,kH b]
def ajk{ops}{i}{o:aX}{d:V}(ho:ops[i]? =ad o)(hg:o.guard=none)(hd:o.dst=ad d){n}(df:d<n){x bN}{t1 t2}(bO:o.op= .call ⟨.builtin .append,#[x,bN],#[t1,t2]⟩)
 {T}{aU}{sz bytes}(hT:D2 P t1 t2 aU sz bytes) {B p f ew:V} {vy:AV} (hx:T.ev x=ad (.c<|.L B p f<|ad ew)) (hy:T.ev bN=ad vy) {Eb:TypeId} {bz:V} {oQ:E C} (hl:U B T.mem=ad (.box Eb bz oQ)) {m:V} {cs:E C} {is:E V} (hs:ua T sz vy=ad (m,cs,is)) (sJ:cs.all kd=ae)
  (hle:f+m<=ew) (Lo:p+(f+m)*sz<=Z oQ) (new:V):
  ig P n ops i (cH T x++cH T bN++fM T (B::is)) [(.s d,ad<|.v<|.c<|.L B p (f+m)<|ad ew),(.m B,ad<|.b<|.box Eb bz<|cF oQ cs<|p+f*sz)] new:=by
 intro F jZ Q known σ g W a K I aS r hK
 have tW:=dq aS T x _ hx<|λM cc=>r M dT
 have tV:=dq aS T bN _ hy<|λM cc=>r M dT
 have N:=xm (st:=T) (ids:=B::is) (σ:=σ)<|λM cc=>r M Lq
 let ⟨e2,iZ⟩:=hT.u2
 let ⟨inf,z,O,vO,DZ,xj,tT⟩:=hT.info
 let ⟨us,yX,R,ry,xn⟩:=Bj (P:=P) aS hs tV (λB a6 b hb=>N B (lL _ a6) b hb) iZ sJ
 have w:=N B ax _ hl
 let ⟨b,vs,rest,X,hh,hr,hN,hz,uc⟩:=aS.cA B _ w
 let ⟨b',h1,yY⟩:=tW
 rw[X]at h1
 cases h1
 have m6:=yX.newsLen
 have pQ:=R.length
 have yU:=hr.length
 have qi:(f+m)*sz=f*sz+m*sz:=gy _ _ _
 have A:p+f*sz+Z us<=Z vs:=G
 have q:=Yd (P:=P) (ty:=o.type) (W:=W) hT.u1 O (b:=b) (off:=p) (sLen:=f) (sCap:=ew) Lp hh xn hle (by rw[vO];simp;omega)
 rw[vO]at q
 have rh:cF (vs++rest) us (p+f*sz)=cF vs us (p+f*sz)++rest:=KO vs rest us _ A
 unfold wpOp
 simp only[ho,gx,hg,cd]
 refine .inl ?_
 unfold oo
 rw[Ln bO (by rw[yY];exact q)]
 simp only[ny,hd]
 have S:d<a.tmps.size:=mm
 have hb:b<W.heap.size:=(fb.1 hh).1
 refine hK g _ _<|aS.step (chg:=λj=>j=B) (g':=g) ⟨⟨cE.refl _,λ_ _=>rfl⟩,λ_ _ _=>rfl,yI aS.sub hz,yJ,?_,J,J,J⟩ _ new I nz aS.defers (λt D=>Hh D) ?_ ?_ ?_ ?_ ?_
 .intro k hk fe;have:b≠k:=λe=>fe B J (by rw[X,e])
  exact w7 this
 .intro j H;subst H;exact⟨xb,_,w⟩
 .intro t u D;simp only[aC]at D;split at D
  .rename_i e;simp only[Key.s.injEq]at e;simp only[aq,Info.v.injEq]at D;subst e;subst D;refine⟨b,X,?_⟩;simp[gT,S]
  .simp at D
 .intro j bk H;simp only[aC,reduceCtorEq,bQ]at H;split at H
  .rename_i Y;simp only[Key.m.injEq]at Y;subst Y;simp only[aq,Info.b.injEq]at H;subst H;refine⟨⟨b,cF vs us<|p+f*sz,rest,X,KP,hr.cF R _,hN,hz,λh0=>?_⟩,.inl ⟨aS.dn _ _ w,_,w⟩⟩;let ⟨c',e1,e2⟩:=uc h0;refine⟨c',e1,?_⟩;rw[<-rh,w8 _ _ _ bX];exact e2
  .simp at H
 .intro k z' l;simp only[aC]at l;split at l
  .simp only[aq]at l;subst l;intro j H;simp[Info.ak,AV.ak,C.ak]at H;subst H;exact .inl<|aS.dn _ _ w
  .split at l
   .simp only[aq]at l;subst l;intro j H;rcases Dx _ _ _ j H with h|h
    .exact .inl<|aS.ak _ _ w j h
    .exact .inl<|ry j h
   .simp at l
 .intro j z' l;simp only[aC,reduceCtorEq,bQ]at l;split at l
  .rename_i Y;simp only[Key.m.injEq]at Y;subst Y;exact .inl<|aS.dn _ _ w
  .simp at l
def ajl{ops}{i}{o:aX}{d:V}(ho:ops[i]? =ad o)(hg:o.guard=none)(hd:o.dst=ad d){n}(df:d<n){x bN}{t1 t2}(bO:o.op= .call ⟨.builtin .append,#[x,bN],#[t1,t2]⟩)
 {st}{aU}{sz bytes}(hT:D2 P t1 t2 aU sz bytes) {w off f:V} {vy:AV} (hx:st.ev x=ad (.c<|.L w off f none)) (hy:st.ev bN=ad vy) {oQ:E C} (hl:U w st.mem=ad (.box aU sz oQ)) {m:V} {cs:E C} {is:E V} (hs:ua st sz vy=ad (m,cs,is)) (sJ:cs.all kd=ae)
  (Lo:f*sz<=Z oQ) (ajm:((f+m)+(f+m)/4+192)*bytes<=281474976710656) (ajh:f+m<=140737488355328) (B:V):
  ig P n ops i (cH st x++cH st bN++fM st (w::is)) [(.s d,ad<|.v<|.c<|.L B 0 (f+m) none),(.m B,ad<|.b<|.box aU sz<|M (f*sz) oQ++cs),(.m w,none)] B:=by
 intro F jZ Q r σ g W a K A aS fE hK
 have tW:=dq aS st x _ hx<|λkx cc=>fE kx dT
 have tV:=dq aS st bN _ hy<|λkx cc=>fE kx dT
 have oR:=xm (st:=st) (ids:=w::is) (σ:=σ)<|λkx cc=>fE kx Lq
 let ⟨e2,iZ⟩:=hT.u2
 let ⟨inf,z,vD,vO,DZ,xj,tT⟩:=hT.info
 let ⟨us,yX,D3,ry,xn⟩:=Bj (P:=P) aS hs tV (λw a6 b hb=>oR w (lL _ a6) b hb) iZ sJ
 have D:=oR w ax _ hl
 have X':=hT.pos
 let ⟨b,vs,rest,hγ,hh,hr,hN,hz,uc⟩:=aS.cA w _ D
 let ⟨c,ajn,ajo⟩:=uc G
 let ⟨h0,b',c',h1,yY,hlc⟩:=tW
 rw[ajn]at h1
 simp only[Value.slice.injEq,aq,Addr.mk.injEq,and_true,true_and]at h1
 obtain⟨rfl,rfl⟩:=h1
 have m6:=yX.newsLen
 have pQ:=D3.length
 have yU:=hr.length
 have Yf:w≠B:=λe=>A<|e▸aS.dn _ _ D
 have R:∀o,g.H W.heap.size o=none:=by
  intro o;cases hv:g.H W.heap.size o with
  |none=>rfl
  |some v=>
   have:=AZ W _<|aS.sub _ _ _ hv
   simp at this
 have hbW:b<W.heap.size:=(fb.1 hh).1
 have I:(M (f*sz) vs).length=f*sz:=bX
 have hrp:aY g (M (f*sz) oQ++cs) (M (f*sz) vs++us):=(hr.take _).append D3
 have O:∀j∈cp (M (f*sz) oQ++cs),r j:=by
  intro j T;rcases Dw _ _ j T with h|h
  .exact aS.ak _ _ D j<|Dr _ _ _ h
  .exact ry j h
 have Hi:∃(v':aR)(S:cx)(b' c':V)(p:E aR),(xi #[t1,t2] o.type #[a.eval x,a.eval bN]).run P W= .ok v' S/\v'= .slice (ad ⟨b',0,none⟩) (f+m) c'/\f+m<=c'/\
   S.heap[b']? =ad (.cells (M (f*sz) vs++us++p).toArray aU (0,0))/\(M (f*sz) vs++us++p).length=c'*sz/\W.heap.size<=S.heap.size/\(∀k,k<W.heap.size->b≠k->S.heap[k]? =W.heap[k]?)/\S.os=W.os/\S.tape=W.tape/\S.output=W.output/\Sub g.H S/\(∀o,g.H b' o=none)/\F.N b'/\(W.heap.size<=b'\/b'=b):=by
  by_cases X:f+m<=c
  .have qi:(f+m)*sz<=c*sz:=et _ X;rw[gy]at qi;have Hb:Z (vs++rest)=Z vs+Z rest:=iX;have q:=Yd (P:=P) (ty:=o.type) (W:=W) hT.u1 vD (b:=b) (off:=0) (sLen:=f) (sCap:=c) Lp hh xn X (by rw[vO];omega);rw[vO,eP]at q;have rh:cF (vs++rest) us (f*sz)=M (f*sz) vs++us++ay (f*sz+Z us) (vs++rest):=by unfold cF;rw[xa G]
   refine⟨_,_,b,c,ay (f*sz+Z us)<|vs++rest,by rw[yY];exact q,J,X,by rw[Dv hbW,rh],?_,yJ,λk _ Y=>w7 Y,J,J,J,yI aS.sub hz,hz,hN,.inr J⟩;rw[<-rh,w8 _ _ _ G];exact ajo
  .have Ra:(yW inf.size f<|.slice (ad ⟨b,0,none⟩) f c).run P W.drew= .ok (M (f*sz) vs).toArray W.drew:=by
    rw[vO];refine run_firstCells_some W.drew sz f ⟨b,0,none⟩ f c _ I ?_;intro j u T;let ⟨Dh,vq⟩:=pS.1 T;simp only[rf]at vq;have Hg:j<Z vs:=by rw[I]at Dh;omega
    simp only[lO,eP];have Hc:W.drew.heap[b]? =ad (.cells (vs++rest).toArray aU (0,0)):=hh;rw[vz Hc j bX,w6 Hg,vq]
   have Hf:c<f+m:=G;have hr':=run_append_grow_src (P:=P) W t1 t2 o.type aU inf z hT.u1 vD xj (ad ⟨b,0,none⟩) f c _ Ra (a.eval bN) m us Lp Hf G (growslice_fits_wide Hf<|by rw[DZ];exact ajm);have yG:=grownCap_ge W (f+m) c aU;refine⟨_,_,W.heap.size,grownCap W (f+m) c aU,(Rb z.cells<|grownCap W (f+m) c aU-(f+m)).toList,by rw[yY];exact hr',J,yG,?_,?_,ax,λk Y _=>heap_alloc_old W.drew _ Y,J,J,J,AY aS.sub _,R,.inl aS.below.size,.inl (aT _)⟩
   .rw[show W.heap.size=W.drew.heap.size from J,heap_alloc_new];congr 2;apply Du;simp
   .simp only[iX,I,m6,Ha,size_zeroCells,tT,<-gy];congr 1;omega
 let ⟨v',S,bn,cn,p,q,tZ,Re,hhn,htn,ajv,ajw,ho1,ho2,ho3,ajA,hHn,hNn,ajD⟩:=Hi
 unfold wpOp
 simp only[ho,gx,hg,cd]
 refine .inl ?_
 unfold oo
 rw[Ln bO q]
 simp only[ny,hd]
 have Bh:d<a.tmps.size:=mm
 let g':Gh:=⟨g.H,λw=>if w=B then .slice (ad ⟨bn,0,none⟩) 0 cn else g.γ w⟩
 have Lr:g'.γ B= .slice (ad ⟨bn,0,none⟩) 0 cn:=by simp[g']
 have D0:fL r g g':=⟨cE.refl _,λw a6=>by
  have:w≠B:=λe=>A<|e▸a6
  simp[g',this]⟩
 refine hK g' _ _<|aS.step (chg:=λj=>j=w) (g':=g') ⟨D0,λ_ _ _=>rfl,ajA,ajv,?_,ho1,ho2,ho3⟩ _ B A nz aS.defers (λt ht=>Hh ht) ?_ ?_ ?_ ?_ ?_
 .intro k Y fe;exact ajw k Y (λe=>fe w J<|by rw[hγ,e])
 .intro j T;subst T;exact⟨by simp[aC,Ne.symm Yf],_,D⟩
 .intro t u ht;simp only[aC]at ht;split at ht
  .rename_i e;simp only[Key.s.injEq]at e;simp only[aq,Info.v.injEq]at ht;subst e;subst ht;refine⟨J,bn,cn,Lr,?_,Re⟩;simp[gT,Bh,tZ]
  .simp at ht
 .intro j bk T;simp only[aC,reduceCtorEq,bQ]at T;split at T
  .rename_i e';simp only[Key.m.injEq]at e';subst e';simp only[aq,Info.b.injEq]at T;subst T;refine⟨⟨bn,_,p,by rw[Lr];rfl,hhn,aY.mono D0 O hrp,hNn,hHn,λ_=>⟨cn,Lr,htn⟩⟩,.inr ⟨J,λk Y=>?_⟩⟩;rw[Lr]at Y;simp only[cy,aq]at Y;subst Y;rcases ajD with h|h
   .exact .inl h
   .refine .inr ⟨w,_,D,?_,by rw[hγ,h]⟩;simp[aC,Ne.symm Yf]
  .split at T<;>simp at T
 .intro k z' l;simp only[aC]at l;split at l
  .simp only[aq]at l;subst l;intro j T;simp[Info.ak,AV.ak,C.ak]at T;exact .inr T
  .split at l
   .simp only[aq]at l;subst l;exact λj T=> .inl<|O j T
   .split at l<;>simp at l
 .intro j z' l;simp only[aC,reduceCtorEq,bQ]at l;split at l
  .rename_i e';simp only[Key.m.injEq]at e';exact .inr e'.symm
  .split at l<;>simp at l
end
section
variable{P:bI}{tt:TT}
def ajE{ops}{i}{o:aX}{d:V}(ho:ops[i]? =ad o)(hg:o.guard=none)(hd:o.dst=ad d){n}(df:d<n){x bN}{t1 t2}(bO:o.op= .call ⟨.builtin .copy,#[x,bN],#[t1,t2]⟩)
 {st}{aU}{sz bytes}(hT:D2 P t1 t2 aU sz bytes) {B l len:V} {Yg:au V} {vy:AV} (hx:st.ev x=ad (.c<|.L B l len Yg)) (hy:st.ev bN=ad vy) {Eb:TypeId} {bz:V} {oQ:E C} (hl:U B st.mem=ad (.box Eb bz oQ)) {m:V} {cs:E C} {is:E V} (hs:ua st sz vy=ad (m,cs,is)) (sJ:cs.all kd=ae)
  (hle:m<=len) (Lo:l+m*sz<=Z oQ) (new:V):
  ig P n ops i (cH st x++cH st bN++fM st (B::is)) [(.s d,ad<|.v<|.c<|.I .i64 m),(.m B,ad<|.b<|.box Eb bz<|cF oQ cs l)] new:=by
 intro F jZ Q known σ g W a K D aS X hK
 have M:=dq aS st x _ hx<|λN cc=>X N dT
 have tV:=dq aS st bN _ hy<|λN cc=>X N dT
 have O:=xm (st:=st) (ids:=B::is) (σ:=σ)<|λN cc=>X N Lq
 let ⟨e2,iZ⟩:=hT.u2
 let ⟨inf,z,R,S,DZ,xj,tT⟩:=hT.info
 let ⟨us,H,Y,ry,xn⟩:=Bj (P:=P) aS hs tV (λB a6 b hb=>O B (lL _ a6) b hb) iZ sJ
 have p:=O B ax _ hl
 let ⟨b,vs,rest,w,hh,hr,hN,hz,uc⟩:=aS.cA B _ p
 have q:∃c,a.eval x= .slice (ad ⟨b,l,none⟩) len c:=by
  cases Yg with
  |some c=>
   let ⟨b',h1,h2⟩:=M
   rw[w]at h1
   cases h1
   exact⟨c,h2⟩
  |none=>
   let ⟨h0,b',c,h1,h2,_⟩:=M
   rw[h1]at w
   simp only[cy,aq]at w
   subst w h0
   exact⟨c,h2⟩
 let ⟨c,q⟩:=q
 have m6:=H.newsLen
 have pQ:=Y.length
 have yU:=hr.length
 have r:l+Z us<=Z vs:=G
 have ud:=yH (P:=P) b us W (vs++rest) l 0 hh bX xn
 simp only[jv]at ud
 have rh:cF (vs++rest) us l=cF vs us l++rest:=KO vs rest us _ r
 have iW:(Builtin.copy_ #[t1,t2] o.type #[a.eval x,a.eval bN]).run P W= .ok (.int .i64 m) (iH W b (cF (vs++rest) us l) Eb):=by rw[q];have Rf:Nat.min m len=m:=sK hle;have hc:=H.cells;simp[Builtin.copy_,run_underlying hT.u1,sizeOf,typeInfo,R,H.len,Rf,S,hc,ud,goInt,ll,pure]
 have hex:(execOp a.eval o).run P W= .ok (.value<|.int .i64 m) (iH W b (cF (vs++rest) us l) Eb):=by refine DY bO<|λcs=>?_;have e:(#[x,bN]:Array eQ).map a.eval= #[a.eval x,a.eval bN]:=ax;rw[e];simp only[Go.builtin,db,iW,dx];rfl
 unfold wpOp
 simp only[ho,gx,hg,cd]
 refine .inl ?_
 unfold oo
 rw[hex]
 simp only[ny,hd]
 have Bh:d<a.tmps.size:=mm
 have hb:b<W.heap.size:=(fb.1 hh).1
 refine hK g _ _<|aS.step (chg:=λj=>j=B) (g':=g) ⟨⟨cE.refl _,λ_ _=>rfl⟩,λ_ _ _=>rfl,yI aS.sub hz,yJ,?_,J,J,J⟩ _ new D nz aS.defers (λt A=>Hh A) ?_ ?_ ?_ ?_ ?_
 .intro k hk fe;have:b≠k:=λe=>fe B J (by rw[w,e])
  exact w7 this
 .intro j T;subst T;exact⟨xb,_,p⟩
 .intro t u A;simp only[aC]at A;split at A
  .rename_i e;simp only[Key.s.injEq]at e;simp only[aq,Info.v.injEq]at A;subst e;subst A;simp[gT,Bh,a8,cN]
  .simp at A
 .intro j bk T;simp only[aC,reduceCtorEq,bQ]at T;split at T
  .rename_i e';simp only[Key.m.injEq]at e';subst e';simp only[aq,Info.b.injEq]at T;subst T;refine⟨⟨b,cF vs us l,rest,w,KP,hr.cF Y _,hN,hz,λh0=>?_⟩,.inl ⟨aS.dn _ _ p,_,p⟩⟩;let ⟨c',e1,e2⟩:=uc h0;refine⟨c',e1,?_⟩;rw[<-rh,w8 _ _ _ bX];exact e2
  .simp at T
 .intro k z' f;simp only[aC]at f;split at f
  .simp only[aq]at f;subst f;intro j T;simp[Info.ak,AV.ak,C.ak]at T
  .split at f
   .simp only[aq]at f;subst f;intro j T;rcases Dx _ _ _ j T with h|h
    .exact .inl<|aS.ak _ _ p j h
    .exact .inl<|ry j h
   .simp at f
 .intro j z' f;simp only[aC,reduceCtorEq,bQ]at f;split at f
  .rename_i e';simp only[Key.m.injEq]at e';subst e';exact .inl<|aS.dn _ _ p
  .simp at f
def sL(a:St):E eQ->au (E<|Bool×E C)
 |[]=>ad []
 |x::xs=>(match a.ev x with
  |some v=>(match rq v,sL a xs with
   |some s,ad b=>ad<|s::b
   |_,_=>none)
  |none=>none)
def Ls{v}{s}(h:rq v=ad s):cp s.2=v.ak:=by
 cases v with
 |c x=>simp only[rq,aq]at h;subst h;simp[cp,AV.ak]
 |a cs=>simp only[rq,aq]at h;subst h;rfl
 |t _=>simp[rq]at h
def Rg{B:dm}{d:V->Prop}{t:Kn}{g:Gh}{W:cx}{a:Act}(h:aJ B d t g W a)(i:St):∀(xs:E eQ)(k:E (Bool×E C)),sL i xs=ad k->
  (∀f∈xs.flatMap (cH i),t f.1=ad f.2)->du g k (xs.map a.eval)/\∀l∈eG k,d l
 |[],k,he,_=>by simp only[sL,aq]at he;subst he;exact⟨J,by simp[eG]⟩
 |x::xs,k,he,m=>by
  simp only[sL]at he;split at he
  .rename_i v u;split at he
   .rename_i s H w n;simp only[aq]at he;subst he;have L:=dq h i x v u<|λf cc=>m f dT;have o:=q8 h i x v u<|λf cc=>m f dT;let ⟨h2,p⟩:=Rg h i xs H n (λf cc=>m f<|by simp only[lq,be];exact .inr cc);refine⟨⟨_,_,J,QT w L,h2⟩,?_⟩;intro l b;simp only[eG,be]at b;rcases b with b|b
    .rw[Ls w]at b;exact o l b
    .exact p l b
   .simp at he
  .simp at he
def Yh{ops}{i}{o:aX}{d:V}(ho:ops[i]? =ad o)(hg:o.guard=none)(hd:o.dst=ad d){n}(df:d<n){f}{first p}(bO:o.op= .makeFunc (.func f) first p)
 {st}{fs cs}(hf:sL st first.toList=ad fs) (hc:sL st p.toList=ad cs) new:
  ig P n ops i ((first.toList++p.toList).flatMap<|cH st) [(.s d,ad<|.v<|.c<|.X new),(.m new,ad<|.b<|.dI f fs cs)] new:=by
 intro F jZ Q T Y g W a K L aS z R
 let ⟨G,A⟩:=Rg aS st _ _ hf (λI j=>z I<|by rw[D5];exact eH _ j)
 let ⟨M,D⟩:=Rg aS st _ _ hc (λI j=>z I<|by rw[D5];exact gI _ j)
 have N:(execOp a.eval o).run P W= .ok (.value<|.func (.func f) (first.toList.map a.eval).toArray (p.toList.map a.eval).toArray) W:=by rw[execOp,bO];have S:first.map a.eval=(first.toList.map a.eval).toArray:=yM;have U:p.map a.eval=(p.toList.map a.eval).toArray:=yM;simp only[Instr.makeFunc,S,U];rfl
 unfold wpOp
 simp only[ho,gx,hg,cd]
 refine .inl ?_
 unfold oo
 rw[N]
 simp only[ny,hd]
 have E:d<a.tmps.size:=mm
 let v:aR:= .func (.func f) (first.toList.map a.eval).toArray (p.toList.map a.eval).toArray
 let q:Gh:=⟨g.H,λB=>if B=new then v else g.γ B⟩
 have r:q.γ new=v:=by simp[q]
 have x:fL T g q:=⟨cE.refl _,λB w=>by
  have:B≠new:=λe=>L<|e▸w
  simp[q,this]⟩
 refine R q _ _<|aS.step (chg:=λ_=>False) (g':=q) ⟨x,λ_ _ _=>rfl,aS.sub,aT _,λ_ _ _=>rfl,J,J,J⟩ _ new L nz aS.defers (λt l=>Hh l) (λ_ h=>h.elim) ?_ ?_ ?_ ?_
 .intro t u l;simp only[aC]at l;split at l
  .rename_i e;simp only[Key.s.injEq]at e;simp only[aq,Info.v.injEq]at l;subst e;subst l;show _=q.γ new;rw[r];simp[gT,E,v]
  .simp at l
 .intro B b l;simp only[aC,reduceCtorEq,bQ]at l;split at l
  .rename_i e;simp only[Key.m.injEq]at e;subst e;simp only[aq,Info.b.injEq]at l;subst l;refine⟨⟨_,_,r,du.mono x A G,du.mono x D M⟩,.inr ⟨J,λk O=>?_⟩⟩;rw[r]at O;simp[cy,v]at O
  .simp at l
 .intro k y l;simp only[aC]at l;split at l
  .simp only[aq]at l;subst l;intro B w;simp[Info.ak,AV.ak,C.ak]at w;exact .inr w
  .split at l
   .simp only[aq]at l;subst l;intro B w;rcases be.1 w with h|h
    .exact .inl<|A B h
    .exact .inl<|D B h
   .simp at l
 .intro B y l;simp only[aC,reduceCtorEq,bQ]at l;split at l
  .rename_i e;simp only[Key.m.injEq]at e;exact .inr e.symm
  .simp at l
end
def m7(a:E aR):Act:={tmps:=a.toArray,defers:=[]}
structure CX(P:bI)(f:FuncId)(vs:E AV)(fm:E (V×aD))(k:V)(r:AV)(a:E (V×aD))(h:V):Prop where
 call:mZ P f=ae
 le:k<=h
 spec:∀(b:dm)(g:Gh)(W:cx)(d:E aR),b.n=vs.length->d.length=vs.length->aJ b (·<k) (St.kn ⟨dy 0 vs,fm,0,[]⟩) g W (m7 d)->
  Calls P f d.toArray W (λe i=>∃v l,e= .returned v/\aJ {b with n:=1} (·<h) (St.kn ⟨[(0,r)],a,0,[]⟩) l i (m7 [v]))
def qj(a:E (V×aD)):E (V×aD)->E (Key×au Info)
 |[]=>[]
 | (id,_)::d=>(.m id,(U id a).map .b)::qj a d
def kj(k:V):E (V×aD)->E (Key×au Info)
 |[]=>[]
 | (id,b)::a=>if k<=id then(.m id,ad<|.b b)::kj k a else kj k a
def xo{u v:E (Key×au Info)}{k:Key}:aC (u++v) k=match aC u k with|some x=>ad x|none=>aC v k:=by
 induction u with
 |nil=>rfl
 |cons p u a=>
  let ⟨b,x⟩:=p
  simp only[ln,aC]
  split
  .rfl
  .exact a
def Hj(a:E (V×aD))(t:V):∀fm,aC (qj a fm) (.s t)=none
 |[]=>rfl
 | (id,b)::d=>by simp[qj,aC,Hj a t d]
def yZ(k:V)(t:V):∀fm,aC (kj k fm) (.s t)=none
 |[]=>rfl
 | (id,b)::a=>by
  simp only[kj];split
  .simp[aC,yZ k t a]
  .exact yZ k t a
def Lt(a:E (V×aD))(d:V):∀fm:E (V×aD),aC (qj a fm) (.m d)=if(U d fm).isSome then ad ((U d a).map .b)else none
 |[]=>rfl
 | (id,b)::g=>by
  simp only[qj,aC,U,Key.m.injEq];by_cases f:id=d
  .simp[f]
  .simp only[f,bQ];exact Lt a d g
def y4(k a:V):∀fm:E (V×aD),aC (kj k fm) (.m a)=if k<=a then(U a fm).map (λb=>ad<|.b b)else none
 |[]=>by simp[kj,aC,U]
 | (id,b)::f=>by
  simp only[kj,U];by_cases h:k<=id
  .simp only[h,cd,aC,Key.m.injEq];by_cases d:id=a
   .subst d;simp[h]
   .simp only[d,bQ];exact y4 k a f
  .simp only[h,bQ];by_cases d:id=a
   .subst d;rw[y4 k id f];simp[h]
   .simp only[d,bQ];exact y4 k a f
def Bk(k:V)(fm:E (V×aD)):E V->Bool
 |[]=>ae
 |id::a=>(dU k id||(U id fm).isSome)&&Bk k fm a
def Bl(k:V)(fm:E (V×aD)):E (V×aD)->Bool
 |[]=>ae
 | (id,b)::a=>(dU k id||(U id fm).isSome)&&Bk k fm b.ak&&Bl k fm a
def Rh{k:V}{fm:E (V×aD)}:∀{l:E V},Bk k fm l=ae->∀a∈l,k<=a\/∃b,U a fm=ad b
 |[],_,_,h=>by cases h
 |g::i,d,a,h=>by
  simp only[Bk,cD,yL]at d;rcases bZ.1 h with rfl|h
  .rcases d.1 with f|f
   .exact .inl<|cP f
   .exact .inr<|Hk.1 f
  .exact Rh d.2 a h
def Ri{k:V}{fm:E (V×aD)}:∀{l:E (V×aD)},Bl k fm l=ae->∀a b,U a l=ad b->(k<=a\/∃b,U a fm=ad b)/\∀f∈b.ak,k<=f\/∃b,U f fm=ad b
 |[],_,_,_,h=>by simp[U]at h
 | (f,x)::m,d,a,b,h=>by
  simp only[Bl,cD,yL]at d;simp only[U]at h;split at h
  .rename_i i;subst i;cases h;refine⟨?_,Rh d.1.2⟩;rcases d.1.1 with g|g
   .exact .inl<|cP g
   .exact .inr<|Hk.1 g
  .exact Ri d.2 a b h
def ic.D6{L B:V->Prop}{g t}{W}{o}{b}(h:ic L g W o b)(p:∀k,cy (g.γ o)=ad k->B k)(hγ:t.γ o=g.γ o)(hH:t.H=g.H)(i:fL (λl=>l∈b.ak) g t):ic B t W o b:=by
 cases b with
 |box E sz cs=>
  let ⟨b,vs,rest,e,a,s,u,hz,hc⟩:=h
  exact⟨b,vs,rest,qk,a,aY.mono i (λl d=>d) s,p b e,Hl,by rw[hγ];exact hc⟩
 |vec E T xs=>
  rcases h with⟨e,C⟩|⟨b,v,vs,e,a,w,x,K,P,u,hz⟩
  .exact .inl ⟨qk,C⟩
  .exact .inr ⟨b,v,vs,qk,a,w,x,K,by rw[hH];exact P,p b tu,Hl⟩
 |dI f first caps=>
  let ⟨us,ws,e,w,x⟩:=h
  exact⟨us,ws,qk,du.mono i (λl d=>eH _ d) w,du.mono i (λl d=>gI _ d) x⟩
 |fz E cs=>
  let ⟨b,vs,rest,e,a,s,u,hz⟩:=h
  exact⟨b,vs,rest,qk,a,aY.mono i (λl d=>d) s,p b e,Hl⟩
 |mp X c xs=>
  let ⟨r,es,e,a,s,u,hz⟩:=h
  exact⟨r,es,qk,a,iU.mono i (λl d=>d) s,p r tu,Hl⟩
 |it m n seen=>
  let ⟨r,b,e,Q,a,u,hz⟩:=h
  exact⟨r,b,qk,by rw[i.γ m (by simp[aD.ak])];exact Q,a,p r tu,Hl⟩
def ic.uf{known:V->Prop}{Be:V->Prop}{g B}{W W'}{s}{b}(h:ic Be g W s b)(t:fL known g B)(L:known s)(v:∀w∈b.ak,known w)
  (d:∀k,cy (g.γ s)=ad k->W'.heap[k]? =W.heap[k]? /\∀o,B.H k o=g.H k o):ic Be B W' s b:=by
 have hγ:=t.γ s L
 cases b with
 |box E sz cs=>
  let ⟨b,vs,rest,e,a,x,l,p,hc⟩:=h
  exact⟨b,vs,rest,qk,by rw[(d b e).1];exact a,aY.mono t v x,l,λo=>by rw[(d b e).2];exact p o,by rw[hγ];exact hc⟩
 |vec E T xs=>
  rcases h with⟨e,C⟩|⟨b,K,vs,e,C,a,P,X,c,l,p⟩
  .exact .inl ⟨qk,C⟩
  .have u:cy (g.γ s)=ad b:=by rw[e];rfl
   exact .inr ⟨b,K,vs,qk,by rw[(d b u).1];exact C,a,P,X,λi q=>c6.mono t.H T _ _<|c i q,l,λo=>by rw[(d b u).2];exact p o⟩
 |dI f first caps=>
  let ⟨us,ws,e,a,P⟩:=h
  exact⟨us,ws,qk,du.mono t (λw Q=>v w<|eH _ Q) a,du.mono t (λw Q=>v w<|gI _ Q) P⟩
 |fz E cs=>
  let ⟨b,vs,rest,e,a,x,l,p⟩:=h
  exact⟨b,vs,rest,qk,by rw[(d b e).1];exact a,aY.mono t v x,l,λo=>by rw[(d b e).2];exact p o⟩
 |mp z A xs=>
  let ⟨r,es,e,a,x,l,p⟩:=h
  have u:cy (g.γ s)=ad r:=tu
  exact⟨r,es,qk,by rw[(d r u).1];exact a,iU.mono t v x,l,λo=>by rw[(d r u).2];exact p o⟩
 |it m n seen=>
  let ⟨r,b,e,y,a,l,p⟩:=h
  have u:cy (g.γ s)=ad r:=tu
  exact⟨r,b,qk,by rw[t.γ m (v m<|by simp[aD.ak])];exact y,by rw[(d r u).1];exact a,l,λo=>by rw[(d r u).2];exact p o⟩
section
variable{P:bI}{tt:TT}
def Yi{k:St}{p:dm}{d:V->Prop}{n:Kn}{g:Gh}{W:cx}{a:Act}(h:aJ p d n g W a):∀(xs:E eQ)(vs:E AV),jw k xs=ad vs->(∀f∈xs.flatMap (cH k),n f.1=ad f.2)->∀i∈cM vs,d i
 |[],vs,he,_,i,b=>by simp only[jw,aq]at he;subst he;cases b
 |x::xs,vs,he,o,i,b=>by
  simp only[jw]at he;split at he
  .rename_i v l s m;simp only[aq]at he;subst he;simp only[cM,be]at b;rcases b with b|b
   .exact q8 h k x v s (λf cc=>o f dT) i b
   .exact Yi h xs l m (λf cc=>o f<|by simp only[lq,be];exact .inr cc) i b
  .simp at he
def Rj{f}{vs}{fm T}{k k'}{a7}(hf:CX P f vs fm k a7 T k')(Rk:∀l∈cM vs,l<k)(oR:∀l b,U l fm=ad b->l<k/\∀w∈b.ak,w<k)(Hm:∀l∈a7.ak,k<=l\/∃b,U l fm=ad b)
  (Bm:∀l b,U l T=ad b->U l fm=ad b\/∀w∈b.ak,k<=w\/∃b,U w fm=ad b)
 {Fc}{Q:V->Prop} {σ}{g}{W}{a}(p:aJ Fc Q σ g W a) (AN:∀l,(k<=l/\l<k')->¬Q l) {us}(Lu:fG g vs us) (Yj:∀l∈cM vs,Q l)
  (fE:∀l b,U l fm=ad b->σ (.m l)=ad (.b b)) {d}(hd:d<a.tmps.size):
  Calls P f us.toArray W (λcz W'=>∃v g',cz= .returned v/\aJ Fc (λl=>Q l\/(k<=l/\l<k')) (bs σ<|(.s d,ad<|.v a7)::(qj T fm++kj k T)) g' W' (a.put (ad d) v)):=by
 have m6:=vI Lu
 let F:dm:={w0:=W,H0:=g.H,n:=Z vs,own:=λb=>∃l bb,U l fm=ad bb/\cy (g.γ l)=ad b,k0:=k,γ0:=g.γ}
 have hN:∀b,F.N b->b<W.heap.size->Fc.N b:=by
  intro b K Y;rcases K with K|⟨l,bb,X,h2⟩
  .exact absurd K (G:¬W.heap.size<=b)
  .exact((p.cA l bb<|fE l bb X).block h2).1
 have hN':∀b,F.N b->Fc.N b:=by
  intro b K;rcases K with K|⟨l,bb,X,h2⟩
  .exact .inl<|b6 p.below.size K
  .exact((p.cA l bb<|fE l bb X).block h2).1
 have h0:aJ F (·<k) (St.kn ⟨dy 0 vs,fm,0,[]⟩) g W (m7 us):=by
  refine⟨by simp[m7,F,m6],J,?_,?_,?_,?_,?_,p.sub,⟨J,J,J,aT _,λ_ _ _=>rfl⟩,cE.refl _,λ_ _ _ _=>rfl,λl B=>⟨B,J⟩⟩
  .intro t v ht;simp only[St.kn,bS]at ht;let ⟨x,hx,he⟩:=ht;cases he;let ⟨_,u,hu,hr,_⟩:=lv vs us 0 Lu t v hx;have D7:us[t]? =ad u:=vJ;simp only[m7,ls,tE,D7,rv];exact hr
  .intro l b K;simp only[St.kn,bS]at K;let ⟨x,hx,he⟩:=K;cases he;exact(p.cA l b<|fE l b hx).D6 (λC kL=> .inr ⟨l,b,hx,kL⟩) J J ⟨cE.refl _,λ_ _=>rfl⟩
  .intro l tY b b' C K oq X h2;simp only[St.kn,bS]at K oq;let ⟨x,hx,he⟩:=K;let ⟨x',hx',Rl⟩:=oq;cases he;cases Rl;exact p.inj l tY b b' C (fE l b hx) (fE tY b' hx') X h2
  .intro key x hx l B;cases key with
   |s t=>
    simp only[St.kn,bS]at hx
    let ⟨bN,hy,he⟩:=hx
    subst he
    let ⟨_,_,_,_,h6⟩:=lv vs us 0 Lu t bN hy
    exact Rk l<|h6 l B
   |m w=>
    simp only[St.kn,bS]at hx
    let ⟨bN,hy,he⟩:=hx
    subst he
    exact(oR w bN hy).2 l B
  .intro l x hx;simp only[St.kn,bS]at hx;let ⟨bN,hy,he⟩:=hx;exact(oR l bN hy).1
 refine(hf.spec F g W us J m6 h0).mono ?_
 rintro cz W' ⟨v,g',rfl,X⟩
 refine⟨v,⟨g'.H,λl=>if k<=l/\l<k' then g'.γ l else g.γ l⟩,J,?_⟩
 generalize Rm:(⟨g'.H,λl=>if k<=l/\l<k' then g'.γ l else g.γ l⟩:Gh)=g2
 have R:g2.H=g'.H:=by rw[<-Rm]
 have Yk:∀l,g2.γ l=if k<=l/\l<k' then g'.γ l else g.γ l:=by rw[<-Rm];intro l;rfl
 have A:∀l,l<k'->g2.γ l=g'.γ l:=by
  intro l B;rw[Yk];split
  .rfl
  .rename_i hn;exact(X.fv l (G:l<k)).2.symm
 have S:fL (·<k') g' g2:=⟨by rw[R];exact cE.refl _,λl B=>A l B⟩
 have L:fL Q g g2:=⟨by rw[R];exact X.le,λl B=>by rw[Yk,y];intro hc;exact AN l hc B⟩
 have Yl:∀l b,U l fm=ad b->Q l:=λl b K=>p.dn _ _<|fE l b K
 have Lv:∀l,(k<=l\/∃b,U l fm=ad b)->l<k'->Q l\/(k<=l/\l<k'):=by
  intro l h h2;rcases h with h|⟨b,K⟩
  .exact .inr ⟨h,h2⟩
  .exact .inl<|Yl l b K
 have Ym:∀l∈a7.ak,l<k':=λl B=>X.ak (.s 0) (.v a7) (by simp[St.kn,U]) l B
 have q:∀C,C<W.heap.size->¬F.own C->W'.heap[C]? =W.heap[C]? /\∀o,g'.H C o=g.H C o:=λC I z=>⟨X.below.block C I z,λo=>X.fresh C o I z⟩
 have Rn:∀w,aC ((.s d,ad<|.v a7)::(qj T fm++kj k T)) (.m w)=if(U w fm).isSome then ad ((U w T).map .b)else if k<=w then(U w T).map (λb=>ad<|.b b)else none:=by
  intro w;simp only[aC,reduceCtorEq,bQ,xo,Lt,y4];by_cases h:(U w fm).isSome=ae
  .simp[h]
  .simp[h]
 have D:∀w b,bs σ ((.s d,ad<|.v a7)::(qj T fm++kj k T)) (.m w)=ad (.b b)->(U w T=ad b/\w<k')\/(U w fm=none/\σ (.m w)=ad (.b b)/\Q w):=by
  intro w b K;simp only[bs,Rn]at K;by_cases h:(U w fm).isSome=ae
  .simp only[h,cd,bS]at K;let ⟨x,hx,he⟩:=K;cases he;exact .inl ⟨hx,X.dn w (.b b)<|by simp[St.kn,hx]⟩
  .have z:U w fm=none:=by simpa using h
   simp only[h,bQ,iF]at K;by_cases I:k<=w
   .simp only[I,cd]at K;cases hx:U w T with
    |none=>
     rw[hx]at K
     simp only[Option.map_none]at K
     exact .inr ⟨z,K,p.dn _ _ K⟩
    |some x=>
     rw[hx]at K
     simp only[vH,aq,Info.b.injEq]at K
     subst K
     exact .inl ⟨J,X.dn w (.b x)<|by simp[St.kn,hx]⟩
   .simp only[I,bQ]at K;exact .inr ⟨z,K,p.dn _ _ K⟩
 have c:∀w b C,U w fm=none->σ (.m w)=ad (.b b)->cy (g.γ w)=ad C->C<W.heap.size/\¬F.own C:=by intro w b C h2 E h4;refine⟨((p.cA w b E).block h4).2,?_⟩;rintro⟨l,bb,h5,h6⟩;have:=p.inj w l b bb C E (fE l bb h5) h4 h6;subst this;rw[h2]at h5;cases h5
 refine⟨by simp[gT,p.size],p.defers,?_,?_,?_,?_,?_,by rw[R];exact X.sub,?_,by rw[R];exact p.le.trans X.le,?_,?_⟩
 .intro t u ht;simp only[bs,aC,xo,Hj,yZ]at ht;by_cases cz:d=t
  .subst cz;simp only[cd,aq,Info.v.injEq]at ht;subst ht;have hr:=X.dv 0 a7 (by simp[St.kn,U]);have hv:(a.put (ad d) v).tmps.getD d undef=v:=by simp[gT,hd]
   rw[hv];exact a8.mono S Ym (by simpa[m7]using hr)
  .have e':¬(Key.s d=Key.s t):=λh=>cz eh
   simp only[e',bQ]at ht;have hv:(a.put (ad d) v).tmps.getD t undef=a.tmps.getD t undef:=by simp[gT,kH cz]
   rw[hv];exact a8.mono L (λl B=>p.ak _ _ ht l B)<|p.dv t u ht
 .intro w b K;rcases D w b K with⟨h2,E⟩|⟨h2,E,h4⟩
  .have Ho:=X.cA w b Hp;exact Ho.D6 (λC kL=>hN' C (Ho.block kL).1) (A w E) R ⟨S.H,λi hi=>S.γ i<|X.ak (.m w) (.b b) Hp i hi⟩
  .refine(p.cA w b E).uf L h4 (λi hi=>p.ak _ _ E i hi)<|λC kL=>?_;let ⟨h5,h6⟩:=c w b C h2 E kL;rw[R];exact q C h5 h6
 .intro w j' b b' C K oq M O;rcases D w b K with⟨h2,E⟩|⟨h2,E,h4⟩<;>rcases D j' b' oq with⟨D8,Hq⟩|⟨D8,Hq,Yn⟩
  .rw[A w E]at M;rw[A j' Hq]at O;exact X.inj w j' b b' C Hp (by simp[St.kn,D8]) M O
  .exfalso;rw[A w E]at M;rw[L.γ j' Yn]at O;let ⟨h5,h6⟩:=c j' b' C D8 Hq O;rcases((X.cA w b Hp).block M).1 with h7|h7
   .exact absurd h7 (G:¬W.heap.size<=C)
   .exact h6 h7
  .exfalso;rw[A j' Hq]at O;rw[L.γ w h4]at M;let ⟨h5,h6⟩:=c w b C h2 E M;rcases((X.cA j' b'<|by simp[St.kn,D8]).block O).1 with h7|h7
   .exact absurd h7 (G:¬W.heap.size<=C)
   .exact h6 h7
  .rw[L.γ w h4]at M;rw[L.γ j' Yn]at O;exact p.inj w j' b b' C E Hq M O
 .intro key x hx l B;cases key with
  |s t=>
   simp only[bs,aC,xo,Hj,yZ]at hx
   by_cases cz:d=t
   .subst cz;simp only[cd,aq]at hx;subst hx;exact Lv l (Hm l B)<|Ym l B
   .have e':¬(Key.s d=Key.s t):=λh=>cz eh
    simp only[e',bQ]at hx;exact .inl<|p.ak _ _ hx l B
  |m w=>
   cases x with
   |v u=>
    simp only[bs,Rn]at hx
    by_cases h:(U w fm).isSome=ae
    .simp only[h,cd,bS]at hx;let ⟨_,_,he⟩:=hx;cases he
    .simp only[h,bQ,iF]at hx;by_cases I:k<=w
     .simp only[I,cd]at hx;cases hy:U w T with
      |none=>rw[hy]at hx;exact .inl<|p.ak (.m w) (.v u) D9 l B
      |some bN=>rw[hy]at hx;simp at hx
     .simp only[I,bQ]at hx;exact .inl<|p.ak _ _ hx l B
   |b b=>
    rcases D w b hx with⟨h2,E⟩|⟨h2,E,h4⟩
    .rcases Bm w b h2 with h7|h7
     .exact .inl<|p.ak _ _ (fE w b h7) l B
     .exact Lv l (h7 l B)<|X.ak (.m w) (.b b) Hp l B
    .exact .inl<|p.ak _ _ E l B
 .intro w x hx;simp only[bs,Rn]at hx;by_cases h:(U w fm).isSome=ae
  .let ⟨b,K⟩:=Hk.1 h;exact .inl<|Yl w b K
  .simp only[h,bQ,iF]at hx;by_cases I:k<=w
   .simp only[I,cd]at hx;cases hy:U w T with
    |none=>rw[hy]at hx;exact .inl<|p.dn _ _ D9
    |some bN=>exact .inr ⟨I,X.dn w (.b bN)<|by simp[St.kn,hy]⟩
   .simp only[I,bQ]at hx;exact .inl<|p.dn _ _ hx
 .refine⟨X.below.os.trans p.below.os,X.below.tape.trans p.below.tape,X.below.output.trans p.below.output,b6 p.below.size X.below.size,λC I z=>?_⟩;have Y:C<W.heap.size:=fO I p.below.size;rw[<-p.below.block C I z];refine(q C Y<|λho=>?_).1;rcases hN C (.inr ho) Y with h2|h2
  .omega
  .exact z h2
 .intro C o I z;have Y:C<W.heap.size:=fO I p.below.size;rw[R,(q C Y<|λho=>?_).2 o]
  .exact p.fresh C o I z
  .rcases hN C (.inr ho) Y with h2|h2
   .omega
   .exact z h2
 .intro l B;let ⟨h2,E⟩:=p.fv l B;exact⟨.inl h2,by rw[L.γ l h2];exact E⟩
def ajH{f}{vs}{fm n}{k t}{u}(hf:CX P f vs fm k u n t)(w:yN k (cM vs)=ae)(x:xg k fm=ae)(B:Bk k fm u.ak=ae)(H:Bl k fm n=ae)
 {Fc}{i:V->Prop} {L}{g}{W}{a}(o:aJ Fc i L g W a) (p:∀l,(k<=l/\l<t)->¬i l) {us}(Q:fG g vs us) (T:∀l∈cM vs,i l)
  (fE:∀l b,U l fm=ad b->L (.m l)=ad (.b b)) {d}(hd:d<a.tmps.size):
  Calls P f us.toArray W (λcz W'=>∃v g',cz= .returned v/\aJ Fc (λl=>i l\/(k<=l/\l<t)) (bs L<|(.s d,ad<|.v u)::(qj n fm++kj k n)) g' W' (a.put (ad d) v)):=
 Rj hf (K3 w) (λl b h=>DP x l b h) (Rh B) (λl b h=> .inr (Ri H l b h).2) o p Q T fE hd
end
def Hr:Bool×E C->au AV
 | (ae,cs)=>ad<|.a cs
 | (ah,[b])=>ad<|.c b
 |_=>none
def rz:E (Bool×E C)->au (E AV)
 |[]=>ad []
 |s::a=>(match Hr s,rz a with
  |some v,ad vs=>ad<|v::vs
  |_,_=>none)
def xp(a:St)(b:eQ)(args:E eQ):au (FuncId×E AV×E V):=match jw a args with
 |some vs=>(match a.ev b with
  |some (.c<|.V<|.func (.func f) ⟨[]⟩ ⟨[]⟩)=>ad (f,vs,[])
  |some (.c<|.X id)=>(match U id a.mem with
   |some (.dI f first caps)=>(match rz first,rz caps with
    |some us,ad ws=>ad (f,us++(vs++ws),[id])
    |_,_=>none)
   |_=>none)
  |_=>none)
 |none=>none
def Hs{g:Gh}:∀{k:E (Bool×E C)}{vs:E AV}{d:E aR},rz k=ad vs->du g k d->fG g vs d
 |[],vs,d,h,f=>by simp only[rz,aq]at h;subst h;exact f
 |s::o,vs,d,h,f=>by
  simp only[rz]at h;split at h
  .rename_i v l a m;simp only[aq]at h;subst h;obtain⟨u,i,rfl,b,n⟩:=f;refine⟨u,i,J,?_,Hs m n⟩;match s,a,b with
   | (ae,cs),a,b=>simp only[Hr,aq]at a;subst a;exact b
   | (ah,[c]),a,b=>simp only[Hr,aq]at a;subst a;exact b
  .simp at h
def Bn:∀{f:E (Bool×E C)}{vs:E AV},rz f=ad vs->∀d∈cM vs,d∈eG f
 |[],vs,h,d,a=>by simp only[rz,aq]at h;subst h;cases a
 |s::k,vs,h,d,a=>by
  simp only[rz]at h;split at h
  .rename_i v g b i;simp only[aq]at h;subst h;simp only[cM,be]at a;simp only[eG,be];rcases a with a|a
   .left;match s,b with
    | (ae,cs),b=>simp only[Hr,aq]at b;subst b;exact a
    | (ah,[l]),b=>simp only[Hr,aq]at b;subst b;simpa[cp,AV.ak]using a
   .exact .inr<|Bn i d a
  .simp at h
def fG.append{g:Gh}:∀{xs a:E AV}{b d:E aR},fG g xs b->fG g a d->fG g (xs++a) (b++d)
 |[],_,_,_,h,h2=>by simp only[fG]at h;subst h;exact h2
 |x::xs,_,_,_,h,h2=>by obtain⟨u,f,rfl,i,k⟩:=h;exact⟨u,f++_,J,i,fG.append k h2⟩
def Lw xs a:cM (xs++a)=cM xs++cM a:=by
 induction xs with
 |nil=>rfl
 |cons x xs b=>simp[cM,b]
section
variable{P:bI}{tt:TT}
def Lx{f}{g b}{W}(a:mZ P f=ae):(invoke (.fn (.func f) b) g).run P W= .ok (.enter f<|g++b) W:=by
 unfold mZ at a;cases d:P.funcs[f]? with
 |none=>rw[d]at a;simp at a
 |some fn=>
  rw[d]at a
  simp only[cD,bne_iff_ne,ne_eq]at a
  have h:fn.body≠none:=by intro i;rw[i]at a;simp at a
  simp[invoke,callFunc,d,a.1,h]
def Yo{fW}{i:V->Prop}{L}{g}{W}{a}(b:aJ fW i L g W a){m}{o}{p}{args}{Q}(v:o.op= .call ⟨.value p,args,Q⟩){f}{vs}{w}(d:xp m p args.toList=ad (f,vs,w))(x:mZ P f=ae)
  (k:∀h∈cH m p++args.toList.flatMap (cH m)++fM m w,L h.1=ad h.2):∃T:E aR,(execOp a.eval o).run P W= .ok (.enter f T.toArray) W/\fG g vs T/\∀u∈cM vs,i u:=by
 unfold xp at d
 split at d
 .rename_i A B;have r:=A5 b m _ _ B (λh cc=>k h<|by simp only[be];exact .inl<|.inr cc);have C:=Yi b _ _ B (λh cc=>k h<|by simp only[be];exact .inl<|.inr cc);have l:args.map a.eval=(args.toList.map a.eval).toArray:=yM;split at d
  .rename_i y s;simp only[aq,bK]at d;obtain⟨rfl,rfl,rfl⟩:=d;have X:a.eval p= .func (.func y) #[] #[]:=dq b m p _ s (λh cc=>k h<|by simp only[be];exact .inl<|.inl cc);refine⟨args.toList.map a.eval,?_,r,C⟩;rw[execOp,v];simp only[resolve,X,xq,pure_bind,Lx x,l];simp
  .rename_i u s;split at d
   .rename_i y first z D
    split at d
    .rename_i T J H K;simp only[aq,bK]at d;obtain⟨rfl,rfl,rfl⟩:=d;have X:a.eval p=g.γ u:=dq b m p _ s (λh cc=>k h<|by simp only[be];exact .inl<|.inl cc);have t:=xm (st:=m) (ids:=[u]) (σ:=L) (λh cc=>k h Lq) u ax _ D;let ⟨G,I,c,e,q⟩:=b.cA u _ t;refine⟨G++(args.toList.map a.eval++I),?_,(Hs H e).append<|r.append<|Hs K q,?_⟩
     .rw[execOp,v];simp only[resolve,X,c,xq,pure_bind,Lx x,l];simp
     .intro j n;rw[Lw,Lw,be,be]at n;rcases n with n|n|n
      .exact b.ak _ _ t j<|eH _<|Bn H j n
      .exact C j n
      .exact b.ak _ _ t j<|gI _<|Bn K j n
    .simp at d
   .simp at d
  .simp at d
 .simp at d
def ajI{B}{i}{o:aX}{d:V}(ho:B[i]? =ad o)(hg:o.guard=none)(hd:o.dst=ad d){n}(df:d<n){cf}{args}{iz}(bO:o.op= .call ⟨.value cf,args,iz⟩)
 {u}{f}{vs:E AV} {H:E V} (ht:xp u cf args.toList=ad (f,vs,H)) {fm t:E (V×aD)} {k k':V} {a7:AV} (hf:CX P f vs fm k a7 t k') (Rk:yN k (cM vs)=ae) (oR:xg k fm=ae) (Hm:Bk k fm a7.ak=ae) (Bm:Bl k fm t=ae)
  (hfm:∀m b,U m fm=ad b->U m u.mem=ad b):
  sx P n B i (cH u cf++args.toList.flatMap (cH u)++fM u H++fM u (fm.map (·.1))) ((.s d,ad<|.v a7)::(qj t fm++kj k t)) (λm=>k<=m/\m<k'):=by
 intro F jZ Q q G g W a K C aS L I
 let ⟨us,hex,T,y⟩:=Yo aS bO ht hf.call<|λz w=>L z<|eH _ w
 have X:=xm (st:=u) (ids:=fm.map (·.1)) (σ:=G)<|λz w=>L z<|gI _ w
 have A:∀{l:E (V×aD)}{m:V}{b:aD},U m l=ad b->m∈l.map (·.1):=by
  intro l;induction l with
  |nil=>intro m b h;simp[U]at h
  |cons p l J=>
   let ⟨j,x⟩:=p
   intro m b h
   simp only[U]at h
   split at h
   .rename_i e;simp[e]
   .exact lL _<|J h
 have c:d<a.tmps.size:=mm
 have M:=ajH hf Rk oR Hm Bm aS C T y (λm b D=>X m (A D) b<|hfm m b D) c
 unfold wpOp
 simp only[ho,gx,hg,cd]
 refine .inl ?_
 unfold oo
 rw[hex]
 simp only[ny,hd]
 refine M.mono ?_
 rintro e N ⟨v,O,rfl,R⟩
 exact I O N _ R
def ajK{f}{vs}{a7}(h:ao P f vs a7)(hm:cM vs=[]) fm k:CX P f vs fm k a7 fm k:=by
 refine⟨h.call,aT _,?_⟩;intro F g W d hn R a;have z:fG g vs d:=by
  have K:∀(vs:E AV)(d:E aR)(i:V)(all:E aR),Z d=Z vs->(∀j,j<Z d->all[i+j]? =d[j]?)->(∀t v,U t (dy i vs)=ad v->a8 g v (all.toArray.getD t undef))->fG g vs d:=by
   intro vs;induction vs with
   |nil=>intro d i all hl _ _;exact gK tG
   |cons x vs ih=>
    intro d i all hl B N
    cases d with
    |nil=>simp at hl
    |cons u d=>
     refine⟨u,d,J,?_,ih d (i+1) all tG ?_ ?_⟩
     .have S:=N i x (by simp[dy,U]);have O:=B 0 ax;simp only[jv,mX]at O;simpa[O]using S
     .intro j hj;have:=B (j+1) pZ;rw[(G:i+1+j=i+(j+1))];simpa using this
     .intro t v L;refine N t v ?_;have Y:∀(l:E AV)(A:V),i<A->∀v,U i (dy A l)=ad v->False:=by
       intro l;induction l with
       |nil=>intro A _ v h;simp[dy,U]at h
       |cons y l ihl=>
        intro A Q v h
        simp only[dy,U]at h
        split at h
        .omega
        .exact ihl (A+1) G v h
      simp only[dy,U];split
      .rename_i e;subst e;exact(Y vs (i+1) G v L).elim
      .exact L
  exact K vs d 0 d R (λj hj=>ax) (λt v L=>a.dv t v<|by simp[St.kn,L])
 refine(h.spec g.H W d a.sub<|z.iy hm).mono ?_;rintro e W' ⟨v,H',rfl,N,hle,D,I,n⟩;refine⟨v,⟨H',g.γ⟩,J,⟨J,a.defers,?_,?_,?_,?_,?_,I,?_,a.le.trans hle,?_,a.fv⟩⟩
 .intro t u L;simp only[St.kn,U,bS]at L;let ⟨x,w,he⟩:=L;cases he;split at w
  .rename_i e;subst e;cases w;have:=N.iy h.iy (cE.refl _) g.γ;simpa[m7]using this
  .cases w
 .intro p b q;have T:St.kn ⟨dy 0 vs,fm,0,[]⟩ (.m p)=ad (.b b):=q;have C:=a.cA p b T;refine C.uf (known:=(·<k)) ⟨hle,λ_ _=>rfl⟩ (a.dn p _ T) (λj hj=>a.ak _ _ T j hj)<|λX kL=>?_;have Q:=(C.block kL).2;exact⟨n.block X Q,λo=>D X o Q⟩
 .intro p tY b b' X q oq S O;exact a.inj p tY b b' X q oq S O
 .intro K x w p M;cases K with
  |m j=>exact a.ak (.m j) x w p M
  |s t=>
   simp only[St.kn,U,bS]at w
   let ⟨y,hy,he⟩:=w
   subst he
   split at hy
   .cases hy;have:p∈a7.ak:=M;rw[h.iy]at this;cases this
   .cases hy
 .intro p x w;exact a.dn p x w
 .exact⟨n.os.trans a.below.os,n.tape.trans a.below.tape,n.output.trans a.below.output,b6 a.below.size n.size,λX hk c=>by rw[n.block X (fO hk a.below.size)];exact a.below.block X hk c⟩
 .intro b o q c;show H' b o=F.H0 b o;rw[D b o (fO q a.below.size)];exact a.fresh b o q c
end
def iA{a:Type}(t:V)(v:a):E (V×a)->E (V×a)
 |[]=>[(t,v)]
 | (k,x)::b=>if k=t then(t,v)::b else(k,x)::iA t v b
def ox{d:Type}(t a:V)(v:d):∀l:E (V×d),U a (iA t v l)=if t=a then ad v else U a l
 |[]=>by simp[iA,U]
 | (k,x)::f=>by
  simp only[iA];split
  .rename_i b;subst b;simp only[U];split<;>rfl
  .rename_i b;simp only[U];split
   .rename_i g;subst g;rw[y (λh=>b h.symm)]
   .exact ox t a v f
def gD(P:bI)(n:V)(b:Array aX)(i:V)(h d:St)(k l:V)(m:Ks):Prop:=
 ∃f g,sx P n b i f g (λo=>k<=o/\o<l)/\(∀p∈f,h.kn p.1=ad p.2)/\d.kn=bs h.kn g/\k<=l/\(∀a∈dw f,a∈m.1)/\∀a∈fP g,a∈m.2
section
variable{P:bI}{tt:TT}
def gD.Ro{n}{a}{i}{o b d}{k}{p}(h:lr P n a i o b k p)(f:d.kn=b.kn):gD P n a i o d k (k+1) p:=by let ⟨rd,wr,s,g,t,l,m⟩:=h;exact⟨rd,wr,s.Kw ⟨aT _,G⟩,g,by rw[f,t],G,l,m⟩
def gD.mu{n}{b}{i}{h d:St}{k}{l}{f}{g}(u:ig P n b i f g k)(m:∀t∈f,h.kn t.1=ad t.2)(o:d.kn=bs h.kn g)(p:∀a∈dw f,a∈l.1)(s:∀a∈fP g,a∈l.2):gD P n b i h d k (k+1) l:=
 ⟨f,g,u.Kw ⟨aT _,G⟩,m,o,G,p,s⟩
def gD.lift{n}{d}{i}{o}(x:d[i]? =ad o)(t:o.guard=none){u f}{k v}{w}(h:gD P n #[o] 0 u f k v w):gD P n d i u f k v w:=by let ⟨rd,wr,B,h2⟩:=h;refine⟨rd,wr,?_,h2⟩;intro F p Q b C g W a K l m H L;have s:=B F p Q b C g W a K l m H L;unfold wpOp at s⊢;simp only[x,gx,t,cd];simp only[tE,mX,gx,t,cd]at s;exact s
def gD.guard{n}{d}{i}{o}(ho:d[i]? =ad o){ix}{b}(hg:o.guard=ad (ix,b)){m}(hj:rj d.toList ix=ad m){u p}(hb:U m u.sl=ad (.c<|.B b)){k k'}{w}
  (h:gD P n #[{o with guard:=none}] 0 u p k k' w):gD P n d i u p k k' (.s m::w.1,w.2):=by
 let ⟨rd,wr,z,x,C,hle,H,L⟩:=h
 refine⟨(.s m,.v<|.c<|.B b)::rd,wr,?_,?_,C,hle,λT r=>?_,L⟩
 .intro F X Q l A g W a K t f y D;have e:=z F X Q l A g W a K t f (λq cc=>y q dT) D;have E:=f.dv m (.c<|.B b)<|y (.s m,.v<|.c<|.B b) ax;have G:gx o (yielded d a.tmps)=ae:=by simp only[gx,hg,DG hj E,beq_self_eq_true]
  unfold wpOp at e⊢;simp only[ho,G,cd];simp only[tE,mX,gx,cd]at e;exact e
 .intro q cc;rcases bZ.1 cc with rfl|h
  .simp[St.kn,hb]
  .exact x q h
 .simp only[dw,gJ,bZ]at r;rcases r with h|h
  .simp[h]
  .exact lL _<|H T h
def Rp(a:St) d x:(⟨iA d x a.sl,a.mem,a.nx,a.gd⟩:St).kn=bs a.kn [(.s d,ad<|.v x)]:=by
 funext key;cases key with
 |s t=>
  by_cases e:d=t
  .simp[St.kn,ox,bs,aC,e]
  .simp[St.kn,ox,bs,aC,e]
 |m id=>simp[St.kn,bs,aC]
def Ea(a:St) d id x b:(⟨iA d x a.sl,(id,b)::a.mem,a.nx,a.gd⟩:St).kn=bs a.kn [(.s d,ad<|.v x),(.m id,ad<|.b b)]:=by
 funext key;cases key with
 |s t=>
  by_cases e:d=t
  .simp[St.kn,ox,bs,aC,e]
  .simp[St.kn,ox,bs,aC,e]
 |m j=>
  by_cases e:id=j
  .simp[St.kn,U,bs,aC,e]
  .simp[St.kn,U,bs,aC,e]
def Yq(a:St) d id x b:(⟨iA d x a.sl,iA id b a.mem,a.nx,a.gd⟩:St).kn=bs a.kn [(.s d,ad<|.v x),(.m id,ad<|.b b)]:=by
 funext key;cases key with
 |s t=>
  by_cases e:d=t
  .simp[St.kn,ox,bs,aC,e]
  .simp[St.kn,ox,bs,aC,e]
 |m j=>
  by_cases e:id=j
  .simp[St.kn,ox,bs,aC,e]
  .simp[St.kn,ox,bs,aC,e]
def ajM(a:St) d id new x b(f:id≠new):(⟨iA d x a.sl,(new,b)::sF id a.mem,a.nx,a.gd⟩:St).kn=bs a.kn [(.s d,ad<|.v x),(.m new,ad<|.b b),(.m id,none)]:=by
 funext key;cases key with
 |s t=>
  by_cases e:d=t
  .simp[St.kn,ox,bs,aC,e]
  .simp[St.kn,ox,bs,aC,e]
 |m j=>
  by_cases e:new=j
  .simp[St.kn,U,bs,aC,e]
  .simp only[St.kn,U,bs,aC,e,reduceCtorEq,Key.m.injEq,bQ,A2];split<;>simp
end
abbrev Hu:=FuncId->E AV->E (V×aD)->V->au (AV×E (V×aD)×V)
def Ly{a:Type}:E (V×a)->E (V×a)
 |[]=>[]
 | (t,v)::b=>iA t v b
def nO(s m:Bool)(a:St):St:=⟨cond s (Ly a.sl) a.sl,cond m (Ly a.mem) a.mem,a.nx,a.gd⟩
def Yr{b:Type}(a:V):∀l:E (V×b),U a (Ly l)=U a l
 |[]=>rfl
 | (t,v)::d=>by simp only[Ly,ox,U]
def Ys s m st:(nO s m st).kn=st.kn:=by
 funext key;cases key with
 |s t=>cases s<;>simp[St.kn,nO,Yr]
 |m id=>cases m<;>simp[St.kn,nO,Yr]
def y5(d:TT)(g h:V):au (V×TI):=match U g d,U h d with
 |some a,ad b=>(match a.kind,b.kind with
  | .sl E,.sl _=>(match U E d with
   |some f=>if 0<f.size then ad (E,f)else none
   |none=>none)
  |_,_=>none)
 |_,_=>none
def reach:V->E (V×aD)->E V->E (V×aD)->E (V×aD)
 |0,_,_,acc=>acc
 |_+1,_,[],acc=>acc
 |f+1,mem,id::todo,acc=>match U id acc with
  |some _=>reach f mem todo acc
  |none=>(match U id mem with
   |some b=>reach f mem (b.ak++todo)<|(id,b)::acc
   |none=>reach f mem todo acc)
def Hv(a b d:V):Bool:=dU ((b+b/4+192)*d) 281474976710656&&dU b 16777216&&dU a 16777216
def Ec(fm:E (V×aD)):E (V×aD)->E (V×aD)
 |[]=>[]
 | (id,b)::a=>match U id fm with
  |some _=>Ec fm a
  |none=>(id,b)::Ec fm a
def Rq(l:TT)(n k d:V)(x g:eQ)(o p:V)(a:St):au (St×V×Ks):=match y5 l o p with
 |some (E,f)=>(match a.ev x,a.ev g with
  |some t,ad u=>(match ua a f.size u with
   |some (m,cs,is)=>if cs.all kd=ae then(match t with
    | .c (.V<|.slice none 0 0)=>if m=0 then ad (⟨iA d (.c<|.V<|.slice none 0 0) a.sl,a.mem,a.nx,a.gd⟩,k+1,(bJ [x,g]++cY is,[.s d]))
     else if Hv 0 m f.bytes then ad (⟨iA d (.c<|.L k 0 m none) a.sl,(k,.box E f.size cs)::a.mem,a.nx,a.gd⟩,k+1,(bJ [x,g]++cY is,[.s d,.m k]))else none
    | .c (.L id off len<|ad c)=>(match U id a.mem with
     |some (.box h i b)=>if len+m<=c then
       (if off+(len+m)*f.size<=Z b then ad (⟨iA d (.c<|.L id off (len+m)<|ad c) a.sl,iA id (.box h i<|cF b cs<|off+len*f.size) a.mem,a.nx,a.gd⟩,k+1,(bJ [x,g]++cY (id::is),[.s d,.m id]))else none)
      else(if off+len*f.size<=Z b/\Hv 0 (len+m) f.bytes=ae then ad (⟨iA d (.c<|.L k 0 (len+m) none) a.sl,(k,.box E f.size<|(ay off b).take (len*f.size)++cs)::a.mem,a.nx,a.gd⟩,k+1,(bJ [x,g]++cY (id::is),[.s d,.m k]))else none)
     |_=>none)
    | .c (.L id _ len none)=>(match U id a.mem with
     |some (.box h i b)=>if h=E/\i=f.size/\len*f.size<=Z b/\id≠k/\Hv 0 (len+m) f.bytes=ae then
       ad (⟨iA d (.c<|.L k 0 (len+m) none) a.sl,(k,.box E f.size<|M (len*f.size) b++cs)::sF id a.mem,a.nx,a.gd⟩,k+1,(bJ [x,g]++cY (id::is),[.s d,.m k,.m id]))else none
     |_=>none)
    |_=>none)else none
   |none=>none)
  |_,_=>none)
 |none=>none
section
variable{P:bI}{tt:TT}
def Lz(d:cq P tt=ae){u v w}{m}(h:y5 tt u v=ad (w,m)):D2 P u v w m.size m.bytes:=by
 unfold y5 at h;split at h
 .rename_i a b C H;split at h
  .rename_i L Q n o;split at h
   .rename_i p f;split at h
    .rename_i g;simp only[aq,bK]at h;obtain⟨rfl,rfl⟩:=h;have x:=(eK d C).kind;rw[n]at x;have B:=(eK d H).kind;rw[o]at B;let ⟨inf,i,k,l,z,s,t⟩:=(eK d f).info;have K:=(eK d f).Xi;refine⟨x,⟨_,B⟩,⟨inf,z,i,k,l,s,?_⟩,g⟩;have:Z z.cells.toList=Z (p.zero.map ZV.eY):=by rw[t]
     simp only[Ha,cT]at this;omega
    .simp at h
   .simp at h
  .simp at h
 .simp at h
def Rt{a d b}(h:Hv a d b=ae):(d+d/4+192)*b<=281474976710656/\d<=140737488355328:=by simp only[Hv,cD]at h;have f:=cP h.1.1;have g:=cP h.1.2;exact⟨f,G⟩
def Bo{b}{x d}{a}:∀f∈dw (cH b x++cH b d++fM b a),f∈bJ [x,d]++cY a:=by
 intro k g;simp only[dw,fF,be]at g;rcases g with(h|h)|h
 .exact eH _<|eI b [x,d] k tL
 .exact eH _<|eI b [x,d] k vE
 .exact gI _<|kf b a k h
def Ed{d}{x g}{b}:∀a∈cH d x++cH d g++fM d b,d.kn a.1=ad a.2:=by
 intro a f;rcases be.1 f with h|h
 .rcases be.1 h with h|h
  .exact dX _ x a h
  .exact dX _ g a h
 .exact lp _ b a h
def ajN(b7:cq P tt=ae){n k d:V}(a:d<n){o:aX}(s:o.guard=none)(t:o.dst=ad d){x bN}{t1 t2:V}(b:o.op= .call ⟨.builtin .append,#[x,bN],#[t1,t2]⟩){i u}{k'}{ks}
  (h:Rq tt n k d x bN t1 t2 i=ad (u,k',ks)):gD P n #[o] 0 i u k k' ks:=by
 have v:(#[o]:Array aX)[0]? =ad o:=rfl
 unfold Rq at h
 split at h
 .rename_i E r z;have w:=Lz b7 z;split at h
  .rename_i I J B C;split at h
   .rename_i m M is H;split at h
    .rename_i f;split at h
     .split at h
      .rename_i q;subst q;simp only[aq,bK]at h;obtain⟨rfl,rfl,rfl⟩:=h;exact .mu (ajj v s t a b w B C H f k) Ed (Rp i d _) Bo mz
      .split at h
       .rename_i q l;let ⟨K,h2⟩:=Rt l;simp only[aq,bK]at h;obtain⟨rfl,rfl,rfl⟩:=h;have:=Ye v s t a b w B C (len:=0) (c:=0) (cb:=[]) (ib:=[]) (by rfl) H f G (by simpa using K) p' k;simp only[eP,tI]at this;exact .mu this Ed (Ea i d k _ _) Bo mz
       .simp at h
     .rename_i T L p c;split at h
      .rename_i A D Q W;split at h
       .rename_i e;split at h
        .rename_i g;simp only[aq,bK]at h;obtain⟨rfl,rfl,rfl⟩:=h;exact .mu (ajk v s t a b w B C W H f e g k) Ed (Yq i d T _ _) Bo mz
        .simp at h
       .rename_i F;split at h
        .rename_i X;let ⟨K,h2⟩:=Rt X.2;simp only[aq,bK]at h;obtain⟨rfl,rfl,rfl⟩:=h;have:=Ye v s t a b w B C (len:=p) (c:=c) (cb:=(ay L Q).take<|p*r.size) (ib:=[T]) (by simp[Q9,W,X.1]) H f G K h2 k;exact .mu this Ed (Ea i d k _ _) Bo mz
        .simp at h
      .simp at h
     .rename_i T L p;split at h
      .rename_i A D Q W;split at h
       .rename_i X;obtain⟨rfl,rfl,g,j,l⟩:=X;let ⟨K,h2⟩:=Rt l;simp only[aq,bK]at h;obtain⟨rfl,rfl,rfl⟩:=h;exact .mu (ajl v s t a b w B C W H f g K h2 k) Ed (ajM i d T k _ _ j) Bo mz
       .simp at h
      .simp at h
     .simp at h
    .simp at h
   .simp at h
  .simp at h
 .simp at h
end
def LA(fm a mem:E (V×aD)):E (V×aD):=match fm with
 |[]=>a++mem
 |fm=>a++Ec fm mem
def Ru(g:Hu)(k d:V)(h:eQ)(args:E eQ)(b:St):au (St×V×Ks):=match xp b h args with
 |some (f,vs,ids)=>(match reach 1000 b.mem (cM vs) []with
  |fm=>(match g f vs fm k with
   |some (r,a,i)=>if yN k (cM vs)&&xg k fm&&Bk k fm r.ak&&Bl k fm a then
     ad (⟨iA d r b.sl,LA fm a b.mem,b.nx,b.gd⟩,i,(bJ (h::args)++cY (ids++fm.map (·.1)),.s d::(cY (fm.map (·.1))++cY (a.map (·.1)))))
    else none
   |none=>none))
 |none=>none
def Hw{b:Type}(a:V):∀(l m:E (V×b)),U a (l++m)=match U a l with|some x=>ad x|none=>U a m
 |[],m=>rfl
 | (t,v)::l,m=>by
  simp only[ln,U];split
  .rfl
  .exact Hw a l m
def Rv(fm:E (V×aD))(a:V):∀l:E (V×aD),U a (Ec fm l)=if(U a fm).isSome then none else U a l
 |[]=>by simp[Ec,U]
 | (id,b)::g=>by
  simp only[Ec];split
  .rename_i x f;rw[Rv fm a g];by_cases d:id=a
   .subst d;simp[f]
   .simp[U,d]
  .rename_i f;simp only[U];by_cases d:id=a
   .subst d;simp[f]
   .simp only[d,bQ];exact Rv fm a g
def ajO(fm a mem:E (V×aD))(b:V):U b (LA fm a mem)=match U b a with|some x=>ad x|none=>if(U b fm).isSome then none else U b mem:=by
 unfold LA;split
 .rw[Hw];cases U b a<;>simp[U]
 .rw[Hw,Rv];cases U b a<;>rfl
def LB(mem:E (V×aD)):∀(f:V)(d:E V)(a:E (V×aD)),(∀g b,U g a=ad b->U g mem=ad b)->∀g b,U g (reach f mem d a)=ad b->U g mem=ad b
 |0,_,a,h=>by simpa[reach]using h
 |f+1,[],a,h=>by simpa[reach]using h
 |f+1,g::d,a,h=>by
  simp only[reach];split
  .exact LB mem f d a h
  .split
   .rename_i b k;refine LB mem f _ _ ?_;intro l m i;simp only[U]at i;split at i
    .rename_i n;subst n;cases i;exact k
    .exact h l m i
   .exact LB mem f d a h
section
variable{P:bI}{tt:TT}
def ajP(f:St) d k n fm a(g:Bl k fm a=ae):(⟨iA d n f.sl,LA fm a f.mem,f.nx,f.gd⟩:St).kn=bs f.kn ((.s d,ad<|.v n)::(qj a fm++kj k a)):=by
 funext key;cases key with
 |s t=>
  by_cases e:d=t
  .simp[St.kn,ox,bs,aC,e]
  .simp[St.kn,ox,bs,aC,e,xo,Hj,yZ]
 |m j=>
  simp only[St.kn,bs,aC,reduceCtorEq,bQ,xo,Lt,y4,ajO]
  by_cases h:(U j fm).isSome=ae
  .simp only[h,cd];cases U j a<;>rfl
  .simp only[h,bQ,iF];cases o:U j a with
   |none=>by_cases i:k<=j<;>simp[i]
   |some b=>
    have i:k<=j:=by
     rcases(Ri g j b o).1 with l|⟨p,l⟩
     .exact l
     .rw[l]at h;simp at h
    simp[i]
def Yt(a:E (V×aD)):∀fm:E (V×aD),fP (qj a fm)=cY (fm.map (·.1))
 |[]=>rfl
 | (id,b)::d=>by simp only[qj,fP,gJ,cY];have:=Yt a d;simp only[fP]at this;rw[this]
def Rw(k:V):∀(fm:E (V×aD)),∀a∈fP (kj k fm),a∈cY (fm.map (·.1))
 |[],a,h=>by simp[kj,fP]at h
 | (id,b)::d,a,h=>by
  simp only[kj]at h;simp only[gJ,cY,bZ];split at h
  .simp only[fP,gJ,bZ]at h;rcases h with h|h
   .exact .inl h
   .exact .inr<|Rw k d a h
  .exact .inr<|Rw k d a h
def ajQ{s:Hu}(t:∀f vs fm k Q g u,s f vs fm k=ad (Q,g,u)->CX P f vs fm k Q g u){n k d:V}(W:d<n){o:aX}(hg:o.guard=none)(hd:o.dst=ad d){v}{args}{iz}(bO:o.op= .call ⟨.value v,args,iz⟩){p w}{u}{ks}
  (h:Ru s k d v args.toList p=ad (w,u,ks)):gD P n #[o] 0 p w k u ks:=by
 have y:(#[o]:Array aX)[0]? =ad o:=rfl
 unfold Ru at h
 split at h
 .rename_i f vs B z;generalize X:reach 1000 p.mem (cM vs) []=fm at h;simp only at h;split at h
  .rename_i Q g G A;split at h
   .rename_i q;simp only[cD]at q;let ⟨⟨⟨c,e⟩,j⟩,C⟩:=q;simp only[aq,bK]at h;obtain⟨rfl,rfl,rfl⟩:=h;have H:=t _ _ _ _ _ _ _ A;refine⟨_,_,ajI y hg hd W bO z H c e j C ?_,?_,ajP p d k Q fm g C,H.le,?_,?_⟩
    .rw[<-X];exact LB p.mem 1000 _ [] (λI b h=>by simp[U]at h)
    .intro T K;simp only[be]at K;rcases K with((h|h)|h)|h
     .exact dX _ v T h
     .let ⟨x,_,h⟩:=iV.1 h;exact dX p x T h
     .exact lp _ B T h
     .exact lp _ _ T h
    .intro i L;simp only[dw,fF,be]at L;have D:∀(l m:E V),cY (l++m)=cY l++cY m:=by
      intro l m;induction l with
      |nil=>rfl
      |cons a l F=>simp only[ln,cY,F]
     rw[D];simp only[be];rcases L with((h|h)|h)|h
     .exact .inl<|eI p (v::args.toList) i tL
     .exact .inl (eI p (v::args.toList) i<|by simp only[dw,lq,fF,be];exact .inr h)
     .exact .inr<|.inl<|kf p B i h
     .exact .inr<|.inr<|kf p _ i h
    .intro i L;simp only[fP,gJ,fF,bZ,be]at L⊢;rcases L with h|h|h
     .exact .inl h
     .refine .inr<|.inl ?_;rw[<-Yt g fm];exact h
     .exact .inr<|.inr<|Rw k g i h
   .simp at h
  .simp at h
 .simp at h
end
def Hx(a:om):E C->au (E Y)
 |[]=>ad []
 | .I k n::b=>if k=a then(match Hx a b with
  |some l=>ad<|n::l
  |none=>none)else none
 |_::_=>none
def LC(a:Bool)(b:om)(d:E C):au (E Y):=match Hx b d with
 |some l=>(match a,l with
  |true,l=>ad l
  |false,[n]=>ad [n]
  |false,_=>none)
 |none=>none
def xr(a:Bool)(b:om)(k:E Y):E (E C×E C)->au (au<|E C)
 |[]=>ad none
 |x::d=>match LC a b x.1 with
  |some f=>if f=k then ad (ad x.2)else xr a b k d
  |none=>none
def xt(b:Bool)(d:om)(k:E Y)(a vc:E C):E (E C×E C)->au (E<|E C×E C)
 |[]=>ad [(a,vc)]
 |x::f=>match LC b d x.1 with
  |some g=>if g=k then ad ((a,vc)::f)else(match xt b d k a vc f with
   |some h=>ad<|x::h
   |none=>none)
  |none=>none
def Yu{g:Gh}{b:om}:∀{d:E C}{l:E Y}{vs:E aR},Hx b d=ad l->aY g d vs->vs=l.map (Value.int b)
 |[],l,vs,h,a=>by simp only[Hx,aq]at h;subst h;exact a
 | .I k n::s,l,vs,h,a=>by
  simp only[Hx]at h;split at h
  .rename_i f;split at h
   .rename_i t i;cases h;subst f;obtain⟨v,m,rfl,o,p⟩:=a;cases o;simp[Yu i p]
   .cases h
  .cases h
 | .any::_,_,_,h,_=>by cases h
 | .B _::_,_,_,h,_=>by cases h
 | .V _::_,_,_,h,_=>by cases h
 | .S _ _::_,_,_,h,_=>by cases h
 | .P _ _::_,_,_,h,_=>by cases h
 | .X _::_,_,_,h,_=>by cases h
 | .Y _ _ _ _::_,_,_,h,_=>by cases h
 | .E _ _ _::_,_,_,h,_=>by cases h
 | .M _::_,_,_,h,_=>by cases h
 | .L _ _ _ _::_,_,_,h,_=>by cases h
 | .W _ _ _::_,_,_,h,_=>by cases h
def Yv{g}{a}{b}{l}{vs}(h:LC ah a b=ad l)(d:aY g b vs):∃n,l=[n]/\vs=[.int a n]:=by
 unfold LC at h;split at h
 .rename_i i f;have:=Yu f d;split at h
  .contradiction
  .rename_i n _;cases h;exact⟨n,J,this⟩
  .cases h
 .cases h
def iU.length{g:Gh}{b d:Bool}:∀{n:V}{xs:E (E C×E C)}{a:E LD},iU g b d n xs a->Z a=Z xs
 |_,[],_,h=>by simp only[iU]at h;subst h;rfl
 |_,_::_,_,⟨k,l,f,_,_,_,i⟩=>by subst f;simp[i.length]
def iU.snoc{g:Gh}{b d:Bool}{a:LD}{x:E C×E C}(f:∃i,a.key=sr b i/\aY g x.1 i)(k:∃vs,a.val=sr d vs/\aY g x.2 vs):∀{n:V}{xs:E (E C×E C)}{l:E LD},iU g b d n xs l->a.born=n+Z xs->iU g b d n (xs++[x]) (l++[a])
 |n,[],_,h,hb=>by simp only[iU]at h;subst h;exact⟨a,[],J,vG,f,k,J⟩
 |n,_::xs,_,⟨m,u,o,h2,p,s,t⟩,hb=>by subst o;exact⟨m,_,J,h2,p,s,iU.snoc f k t<|by simp only[iI]at hb;omega⟩
def Yw{g:Gh}{a:om}{w:Bool}{m:Y}:∀{n:V}{xs:E (E C×E C)}{f:E LD},iU g ah w n xs f->∀{k:au (E C)},xr ah a [m] xs=ad k->∀i:V,
  match k with
  |none=>ug (.int a) (.int a m) f i=ad none
  |some vc=>∃l vs,ug (.int a) (.int a m) f i=ad (ad (i+l,sr w vs))/\aY g vc vs
 |n,[],f,h,k,b,i=>by simp only[iU]at h;subst h;simp only[xr,aq]at b;subst b;rfl
 |n,x::xs,f,⟨B,o,L,h2,⟨ks,P,s⟩,⟨vs,Q,t⟩,T⟩,k,b,i=>by
  subst L;simp only[xr]at b;split at b
  .rename_i k' W;obtain⟨p,rfl,rfl⟩:=Yv W s;have d:B.key= .int a p:=P;have H:Ry (.int a) (.int a m) (.int a p)=ad (m==p):=by simp[Ry]
   split at b
   .rename_i X;cases X;cases b;refine⟨0,vs,?_,t⟩;simp[ug,d,H,Q]
   .rename_i u;have c:(m==p)=ah:=by simp only[beq_eq_false_iff_ne,ne_eq];intro y;exact u (by rw[y])
    have K:ug (.int a) (.int a m) (B::o) i=ug (.int a) (.int a m) o (i+1):=by simp[ug,d,H,c]
    have v:=Yw T b<|i+1;cases k with
    |none=>simp only at v⊢;rw[K];exact v
    |some vc=>
     obtain⟨l,z,A,D⟩:=v
     exact⟨l+1,z,by rw[K,A,(G:i+1+l=i+(l+1))],D⟩
  .cases b
def Yx{g:Gh}{a:om}{H:Bool}{m:Y}{kc vc:E C}{ks vs:E aR}(s:aY g kc ks)(t:ks=[.int a m])(u:aY g vc vs):∀{n:V}{xs b:E (E C×E C)}{l:E LD},iU g ah H n xs l->xt ah a [m] kc vc xs=ad b->∀i:V,
  (ug (.int a) (.int a m) l i=ad none/\b=xs++[(kc,vc)])\/
  ∃o w k,ug (.int a) (.int a m) l i=ad (ad (i+o,w))/\l[o]? =ad k/\k.key= .int a m/\Z b=Z xs/\iU g ah H n b (l.modify o λk=>{k with key:= .int a m,val:=sr H vs})
 |n,[],b,l,h,d,i=>by simp only[iU]at h;subst h;simp only[xt,aq]at d;subst d;exact .inl ⟨J,J⟩
 |n,x::xs,b,l,⟨k,p,h1,h2,⟨dN,W,v⟩,⟨L,h4,P⟩,h5⟩,d,i=>by
  subst h1;simp only[xt]at d;split at d
  .rename_i k' hk;obtain⟨B,rfl,rfl⟩:=Yv hk v;have f:k.key= .int a B:=W;have X:Ry (.int a) (.int a m) (.int a B)=ad (m==B):=by simp[Ry]
   split at d
   .rename_i r;cases r;cases d;refine .inr ⟨0,k.val,k,by simp[ug,f,X],J,f,J,?_⟩;exact⟨_,p,J,h2,⟨ks,by rw[t];rfl,s⟩,⟨vs,J,u⟩,h5⟩
   .rename_i K;have y:(m==B)=ah:=by simp only[beq_eq_false_iff_ne,ne_eq];intro z;exact K (by rw[z])
    have c:ug (.int a) (.int a m) (k::p) i=ug (.int a) (.int a m) p (i+1):=by simp[ug,f,X,y]
    split at d
    .rename_i N Q;cases d;rcases Yx s t u h5 Q (i+1)with⟨T,rfl⟩|⟨o,w,A,T,D,F,I,M⟩
     .exact .inl ⟨by rw[c];exact T,J⟩
     .refine .inr ⟨o+1,w,A,by rw[c,T,(G:i+1+o=i+(o+1))],D,F,by simp[I],?_⟩;exact⟨k,_,J,h2,⟨_,W,v⟩,⟨L,h4,P⟩,M⟩
    .cases d
  .cases d
def Yy{d:Bool}{f:om}{k:E Y}:∀{xs:E (E C×E C)}{vc:E C},xr d f k xs=ad (ad vc)->∀b∈cp vc,b∈mW xs
 |[],_,h,_,_=>by simp[xr]at h
 |x::g,vc,h,b,a=>by
  simp only[xr]at h;split at h
  .split at h
   .cases h;simp[mW,a]
   .simp[mW,Yy h b a]
  .cases h
def Yz{i:Bool}{l:om}{k:E Y}{g vc:E C}:∀{xs b:E (E C×E C)},xt i l k g vc xs=ad b->∀d∈mW b,d∈mW xs\/d∈cp g\/d∈cp vc
 |[],_,h,d,a=>by simp only[xt,aq]at h;subst h;simp only[mW,ik,be]at a;exact .inr a
 |x::m,b,h,d,a=>by
  simp only[xt]at h;split at h
  .split at h
   .cases h;simp only[mW,be]at a⊢;rcases a with h|h|h
    .exact .inr<|.inl h
    .exact .inr<|.inr h
    .exact .inl<|.inr<|.inr h
   .split at h
    .rename_i n f;cases h;simp only[mW,be]at a⊢;rcases a with h|h|h
     .exact .inl<|.inl h
     .exact .inl<|.inr<|.inl h
     .rcases Yz f d h with h|h
      .exact .inl<|.inr<|.inr h
      .exact .inr h
    .cases h
  .cases h
def Ee(g f:Bool)(d:E C)(b:Bool):au AV:=match g with
 |true=>(match f,d with
  |true,d=>ad<|.t [(ae,d),(ah,[.B b])]
  |false,[c]=>ad<|.t [(ah,[c]),(ah,[.B b])]
  |false,_=>none)
 |false=>(match f,d with
  |true,d=>ad<|.a d
  |false,[c]=>ad<|.c c
  |false,_=>none)
def YA{g}{i d}{k}{b}{v}{vs}(h:Ee i d k b=ad v)(a:aY g k vs):a8 g v (if i then .tuple #[sr d vs,.bool b]else sr d vs):=by
 unfold Ee at h;split at h
 .split at h
  .cases h;exact⟨[_,_],J,_,_,J,⟨vs,J,a⟩,_,_,J,J,J⟩
  .rename_i c;cases h;obtain⟨u,r,rfl,f,l⟩:=a;exact⟨[_,_],J,_,_,J,f,_,_,J,J,J⟩
  .cases h
 .split at h
  .cases h;exact⟨vs,J,a⟩
  .rename_i c;cases h;obtain⟨u,r,rfl,f,l⟩:=a;exact f
  .cases h
def ajR{d f}{a}{b}{v}(h:Ee d f a b=ad v):∀g∈v.ak,g∈cp a:=by
 unfold Ee at h;split at h
 .split at h
  .cases h;simp[AV.ak,eG,cp,C.ak]
  .cases h;simp[AV.ak,eG,cp,C.ak]
  .cases h
 .split at h
  .cases h;simp[AV.ak]
  .cases h;simp[AV.ak,cp]
  .cases h
def ajS{H}{W}(h:Sub H W){a}{f:Obj}(g:∀o,H a o=none):Sub H {W with heap:=W.heap.setIfInBounds a f}:=by
 intro d o v b;have i:=h d o v b;by_cases e:a=d
 .subst e;rw[g o]at b;cases b
 .simp only[World.cell?,kH e];exact i
section
variable{P:bI}{tt:TT}
def ajT{ops}{i}{o:aX}{d:V}(ho:ops[i]? =ad o)(hg:o.guard=none)(hd:o.dst=ad d){n}(df:d<n){t}(bO:o.op= .makeMap t none) ka va new:
  ig P n ops i [] [(.s d,ad<|.v<|.c<|.X new),(.m new,ad<|.b<|.mp ka va [])] new:=by
 intro F jZ Q B E g W a K w aS A D
 have z:(execOp a.eval o).run P W= .ok (.value<|.map<|ad W.heap.size) {W with heap:=W.heap.push<|.map #[] 0}:=by rw[execOp,bO];rfl
 unfold wpOp
 simp only[ho,gx,hg,cd]
 refine .inl ?_
 unfold oo
 rw[z]
 simp only[ny,hd]
 have j:d<a.tmps.size:=mm
 let v:aR:= .map<|ad W.heap.size
 let L:Gh:=⟨g.H,λx=>if x=new then v else g.γ x⟩
 have T:L.γ new=v:=by simp[L]
 have q:fL B g L:=⟨cE.refl _,λx l=>by
  have:x≠new:=λe=>w<|e▸l
  simp[L,this]⟩
 have p:∀o,g.H W.heap.size o=none:=by
  intro o;cases hv:g.H W.heap.size o with
  |none=>rfl
  |some v=>
   have:=AZ W _<|aS.sub _ _ _ hv
   simp at this
 refine D L _ _<|aS.step (chg:=λ_=>False) (g':=L) ⟨q,λ_ _ _=>rfl,AY aS.sub _,ax,λk r _=>Dy W _ k r,J,J,J⟩ _ new w nz aS.defers (λt f=>Hh f) (λ_ h=>h.elim) ?_ ?_ ?_ ?_
 .intro t u f;simp only[aC]at f;split at f
  .rename_i e;simp only[Key.s.injEq]at e;simp only[aq,Info.v.injEq]at f;subst e;subst f;show _=L.γ new;rw[T];simp[gT,j,v]
  .simp at f
 .intro x b f;simp only[aC,reduceCtorEq,bQ]at f;split at f
  .rename_i e;simp only[Key.m.injEq]at e;subst e;simp only[aq,Info.b.injEq]at f;subst f;refine⟨⟨W.heap.size,#[],T,ax,J,.inl aS.below.size,p⟩,.inr ⟨J,λk r=> .inl ?_⟩⟩;rw[T]at r;simp only[cy,v,aq]at r;omega
  .simp at f
 .intro k y f;simp only[aC]at f;split at f
  .simp only[aq]at f;subst f;intro x l;simp[Info.ak,AV.ak,C.ak]at l;exact .inr l
  .split at f
   .simp only[aq]at f;subst f;intro x l;simp[Info.ak,aD.ak,mW]at l
   .simp at f
 .intro x y f;simp only[aC,reduceCtorEq,bQ]at f;split at f
  .rename_i e;simp only[Key.m.injEq]at e;exact .inr e.symm
  .simp at f
def ajU(l:cq P tt=ae){ops}{i}{o:aX}{d:V}(ho:ops[i]? =ad o)(hg:o.guard=none)(hd:o.dst=ad d){n}(df:d<n){t}{x bN}{ok}(bO:o.op= .lookup t x bN ok)
 {H}{L}{lz:om} {m:Y} (hx:H.ev x=ad (.c<|.X L)) (hy:H.ev bN=ad (.c<|.I lz m)) {kt vt:V} {ti ki Q:TI} (nF:U t tt=ad ti) (hk:ti.kind= .map kt vt) (Bp:U kt tt=ad ki) (kL:ki.kind= .int lz) (uh:U vt tt=ad Q)
  {xs:E (E C×E C)} (hl:U L H.mem=ad (.mp ah Q.agg xs)) {a7:au (E C)} (hr:xr ah lz [m] xs=ad a7) {v:AV} (hv:Ee ok Q.agg (a7.getD<|Q.zero.map ZV.pR) a7.isSome=ad v) (new:V):
  ig P n ops i ([x,bN].flatMap (cH H)++fM H [L]) [(.s d,ad<|.v v)] new:=by
 refine sB ho hg hd df _ v new ?_
 intro F N σ g W a f K
 have h:=dq f H x _ hx<|λO cc=>K O dT
 have p:=dq f H bN _ hy<|λO cc=>K O dT
 have e:σ (.m L)=ad (.b<|.mp ah Q.agg xs):=K (.m L,.b<|.mp ah Q.agg xs) pU
 let ⟨b,es,R,hh,S,hN,hz⟩:=f.cA L _ e
 have h:a.eval x=g.γ L:=h
 have p:a.eval bN= .int lz m:=p
 rw[R]at h
 have Z:=(eK l nF).kind
 rw[hk]at Z
 have u:=(eK l Bp).kind
 rw[kL]at u
 have M:=Yw S hr 0
 refine⟨?_,?_⟩
 .intro j hj;have h1:=ajR hv j hj;cases a7 with
  |none=>
   rw[Option.getD_none,KT]at h1
   cases h1
  |some vc=>exact f.ak _ _ e j<|Yy hr j h1
 .have A:=ajV (w:=W) u (k:= .int lz m) J es.isEmpty 9999;cases a7 with
  |none=>
   have T:=Rz (P:=P) (w:=W) u M
   let ⟨inf,B,_,_,z,D,xc⟩:=(eK l uh).info
   have G:=(eK l uh).zag _ _ B D
   have Ef:(zeroValue vt).run P W= .ok z W:=by simp[zeroValue,typeInfo,B,D]
   refine⟨_,?_,YA hv<|yK g Q.zero⟩
   rw[execOp,bO]
   simp only[Instr.lookup,h,p,db,run_underlying Z,dx,RA hh,AT,A,T,Ef,G]
   rfl
  |some vc=>
   obtain⟨j,ws,M,Gx⟩:=M
   have T:=Rz (P:=P) (w:=W) u M
   refine⟨_,?_,YA hv Gx⟩
   rw[execOp,bO]
   simp only[Instr.lookup,h,p,db,run_underlying Z,dx,RA hh,AT,A,T]
   rfl
def ajW(b7:cq P tt=ae){ops}{i}{o}(ho:ops[i]? =ad o)(hg:o.guard=none)(hd:o.dst=none){n}{t:TypeId}{x bN fw}(bO:o.op= .mapUpdate t x bN fw)
 {L}{T}{p}{m:Y} {u:AV} {va:Bool} {vc:E C} (hx:L.ev x=ad (.c<|.X T)) (hy:L.ev bN=ad (.c<|.I p m)) (Ef:L.ev fw=ad u) (DX:rq u=ad (va,vc)) {kt vt:V} {ti ki:TI} (nF:U t tt=ad ti) (hk:ti.kind= .map kt vt) (Bp:U kt tt=ad ki) (kL:ki.kind= .int p)
  {xs xu:E (E C×E C)} (hl:U T L.mem=ad (.mp ah va xs)) (hp:xt ah p [m] [.I p m] vc xs=ad xu) (new:V):
  ig P n ops i ([x,bN,fw].flatMap (cH L)++fM L [T]) [(.m T,ad<|.b<|.mp ah va xu)] new:=by
 intro F jZ Q known σ g W a K S f v hK
 have B:=dq f L x _ hx<|λM cc=>v M dT
 have r:=dq f L bN _ hy<|λM cc=>v M dT
 have hrz:=dq f L fw _ Ef<|λM cc=>v M dT
 have hmz:=q8 f L fw _ Ef<|λM cc=>v M dT
 have s:σ (.m T)=ad (.b<|.mp ah va xs):=v (.m T,.b<|.mp ah va xs) pU
 let ⟨b,es,N,hh,O,hN,hz⟩:=f.cA T _ s
 have B:a.eval x=g.γ T:=B
 have r:a.eval bN= .int p m:=r
 rw[N]at B
 have hu:=(eK b7 nF).kind
 rw[hk]at hu
 have A:=(eK b7 Bp).kind
 rw[kL]at A
 have Eg:∃vs,a.eval fw=sr va vs/\aY g vc vs:=by
  have:=QT DX hrz;cases va with
  |true=>exact this
  |false=>
   match vc,this with
   |[c],h=>exact⟨[a.eval fw],J,_,_,J,h,J⟩
   |[],h=>exact h.elim
   |_::_::_,h=>exact h.elim
 let ⟨vs,YB,LF⟩:=Eg
 have LG:=ajV (w:=W) A (k:= .int p m) J ah 9999
 have hlen:=O.length
 have LH:∃D,(execOp a.eval o).run P W= .ok .skip {W with heap:=W.heap.setIfInBounds b<|.map D<|Z xu}/\iU g ah va 0 xu D.toList:=by
  rcases Yx (g:=g) (kc:=[.I p m]) (ks:=[.int p m]) ⟨_,_,J,J,J⟩ J LF O hp 0 with⟨hf,rfl⟩|⟨j,w,e,hf,he,qm,hle,H⟩
  .have R:=Rz (P:=P) (w:=W) A hf;refine⟨es.push ⟨.int p m,a.eval fw,Z xs⟩,?_,?_⟩
   .rw[execOp,bO];simp only[Instr.mapUpdate,B,r,db,run_underlying hu,dx,RA hh,AT,LG,R,ajZ _ hh,iX,rA]
   .rw[Array.toList_push];exact iU.snoc (x:=([.I p m],vc)) ⟨[.int p m],J,_,_,J,J,J⟩ ⟨vs,YB,LF⟩ O ax
  .have R:=Rz (P:=P) (w:=W) A hf;have Rl:es[j]? =ad e:=by simpa using he
   have ud:=MapKept.run_keyThatStays (P:=P) (w:=W) (d:= .int p) (k:= .int p m) J;refine⟨es.modify j λe=>{e with key:= .int p m,val:=a.eval fw},?_,by rw[Array.toList_modify,YB];exact H⟩;rw[execOp,bO];simp only[Instr.mapUpdate,B,r,db,run_underlying hu,dx,RA hh,AT,LG,R,eP,Rl,vH,rv,qm,ud,ajZ _ hh,hle]
 let ⟨D,hex,H⟩:=LH
 unfold wpOp
 simp only[ho,gx,hg,cd]
 refine .inl ?_
 unfold oo
 rw[hex]
 simp only[ny,hd,gT]
 have hb:b<W.heap.size:=(fb.1 hh).1
 refine hK g _ a<|f.step (chg:=λj=>j=T) (g':=g) ⟨⟨cE.refl _,λ_ _=>rfl⟩,λ_ _ _=>rfl,ajS f.sub hz,ax,?_,J,J,J⟩ _ new S J f.defers (λ_ _=>rfl) ?_ ?_ ?_ ?_ ?_
 .intro k hk fe;have:b≠k:=λe=>fe T J (by rw[N,e];rfl)
  exact kH this
 .intro j G;subst G;exact⟨xb,_,s⟩
 .intro t' v' ht;simp[aC]at ht
 .intro j bk G;simp only[aC]at G;split at G
  .rename_i e;simp only[Key.m.injEq]at e;subst e;simp only[aq,Info.b.injEq]at G;subst G;exact⟨⟨b,D,N,by simp[hb],H,hN,hz⟩,.inl ⟨f.dn _ _ s,_,s⟩⟩
  .simp at G
 .intro k z' l;simp only[aC]at l;split at l
  .simp only[aq]at l;subst l;intro j G;rcases Yz hp j G with h|h|h
   .exact .inl<|f.ak _ _ s j h
   .simp[cp,C.ak]at h
   .refine .inl<|hmz j ?_;rw[<-Ls DX];exact h
  .simp at l
 .intro j z' l;simp only[aC]at l;split at l
  .rename_i e;simp only[Key.m.injEq]at e;subst e;exact .inl<|f.dn _ _ s
  .simp at l
end
end Go.El
