/- Own work; no condition. -/
import Derived.MapKept
import Derived.Carry
import Derived.Test.YtceihkmakfdcnaaGreatC2
set_option linter.all false
set_option maxHeartbeats 16000000
set_option maxRecDepth 100000
open Bool renaming true->ae,false->ah
open Go renaming Program->bW,World->cJ,Value->aT,Oper->a8,Operand->fE,IntKind->p8,MapEntry->Od
open Go.Act renaming put->iK
open Go.Builtin renaming append_->zf,firstCells->Bf,zeroCells->Uj
open Go.Deferred renaming ofValue->zs
open Go.El renaming iJ->o,jz->w
open Go.Instr renaming sliceBound->TG,sliceAt->Ud,sliceBounds->yY,slice->abD,buildSlice->JC,findNow->wq,sameNow->UD
open Go.MapKept renaming run_checkKey->aod,run_findKey->UE,run_getObj_map->UF,run_setObj_map->aog
open Go.Oper renaming wp->p',upon->ph
open Go.Region renaming wanted->iv
open Go.Result renaming andThen->eo
open Go.Sem renaming run_bind->dH,run->mX,run_pure->C0
open Go.World renaming block_lt_of_cell?->C5
open List renaming length->Z,replicate->bx,drop->az,take->r
open Nat renaming ble->fa
open Option renaming some->ad
open _root_ renaming Nat->G,Option->aw,Int->V,List->E
namespace Go.El
open Go Go.RowKit
def NT(a:TT)(t:G):aw G:=match o t a with
 |some b=>(match b.kind with
  | .sl e=>(match o e a with|some d=>ad d.size|none=>none)
  |_=>none)
 |none=>none
def NU(a:TT)(t:G)(x i:AV):aw (AV×Pr):=match x,i with
 | .c (.L id off len _),.c (.I _ k)=>(match NT a t with
  |some sz=>ad (.c<|.P id<|off+Int.toNat k*sz,.and (.le 0 k)<|.lt k len)
  |none=>none)
 |_,_=>none
def zi(m:G):aw AV->G->aw (G×Pr)
 |none,d=>ad (d,.t)
 |some (.c<|.I _ k),_=>ad (Int.toNat k,.and (.le 0 k)<|.le k m)
 |_,_=>none
def Uc(f:TT)(t:G)(x:AV)(d a b:aw AV):aw (AV×Pr):=match x,NT f t with
 | .c (.L id off len<|ad c),ad sz=>(match zi c b c with
  |some (m,p1)=>(match(if b.isSome&& !a.isSome then none else zi m a len)with
   |some (h,g)=>(match zi h d 0 with
    |some (l,i)=>ad (.c<|.L id (if m=l then off else off+l*sz) (h-l)<|ad<|m-l,.an p1<|.an g i)
    |none=>none)
   |none=>none)
  |none=>none)
 | .c (.L id off len none),ad _=>(match d,b with
  |none,none=>(match zi len a len with
   |some (h,p)=>ad (.c<|.L id off h none,p)
   |none=>none)
  |_,_=>none)
 | .c (.V<|.slice none 0 0),ad _=>(match b,zi 0 a 0 with
  |none,ad (h,p)=>(match zi h d 0 with
   |some (_,q)=>ad (.c<|.V<|.slice none 0 0,.an p q)
   |none=>none)
  |_,_=>none)
 |_,_=>none
def NV(a:TT)(t:G)(x:AV):aw AV:=match o t a with
 |some b=>(match b.kind with
  | .sl _=>(match x with
   | .c (.L _ _ len _)=>ad<|.c<|.I .i64 len
   |_=>none)
  |_=>none)
 |none=>none
def abC(a x b:aw AV):aw (AV×Pr):=match a,x,b with
 |some (.c<|.B ae),ad v,_=>ad (v,.t)
 |some (.c<|.B ah),_,ad v=>ad (v,.t)
 |_,_,_=>none
def Gs(b:TT)(a:St):Op->aw (AV×Pr)
 | .pick f x g=>abC (a.ev f) (a.ev x)<|a.ev g
 | .indexAddr t x i=>(match a.ev x,a.ev i with|some v,ad k=>NU b t v k|_,_=>none)
 | .slice t x lo n p=>(match a.ev x,AX a lo,AX a n,AX a p with|some v,ad l,ad s,ad m=>Uc b t v l s m|_,_,_,_=>none)
 | .call ⟨.builtin .len,args,d⟩=>(match args.toList,d.toList with
  |[x],[t]=>(match a.ev x with|some v=>(match NV b t v with|some u=>ad (u,.t)|none=>none)|none=>none)
  |_,_=>none)
 |_=>none
section
variable{P:bW}{tt:TT}{g:Gh}{W:cJ}
def NW(b:cE P tt=ae){t n}(a:NT tt t=ad n):∃d i,P.underlying t=ad (.slice d)/\P.info? d=ad i/\i.size=n:=by
 refine FN b ?_;unfold NT at a;unfold yW;split at a
 .rename_i s f;split at a
  .rename_i d k;split at a
   next l m=>have p:l.size=n:=JI a;simp[f,k,m,p]
   .simp at a
  .simp at a
 .simp at a
def anC(m:cE P tt=ae){t}{x i n}{p}(a:NU tt t x i=ad (n,p))(T:p){v u}(Q:bh g x v)(hu:bh g i u):(∃z,(Instr.indexAt t v u).run P W= .ok z W/\bh g n z)/\∀s∈n.ak,s∈x.ak:=by
 unfold NU at a;split at a
 .rename_i s f l A X k;split at a
  .rename_i sz B;simp at a;obtain⟨rfl,rfl⟩:=a;let ⟨e,i,D,j,o⟩:=NW m B;have H:u= .int X k:=hu;subst H;have d:0<=k/\k<(l:V):=T;have K:∃b c,cO (g.γ s)=ad b/\v= .slice (ad ⟨b,f,none⟩) l c:=by
    cases A with
    |some c=>let ⟨b,N,h2⟩:=Q;exact⟨b,c,N,h2⟩
    |none=>let ⟨q,b,c,N,h2,_⟩:=Q;subst q;exact⟨b,c,by rw[N];rfl,h2⟩
   obtain⟨b,c,r,rfl⟩:=K;refine⟨⟨.pointer<|ad ⟨b,f+Int.toNat k*sz,none⟩,?_,b,r,J⟩,tz⟩;simp[Instr.indexAt,asIntOf,dH,run_underlying D,eo];simp[d,run_sizeOf j,o,ns]
  .simp at a
 .simp at a
def zj{m}{x}{d b}{p}(a:zi m x d=ad (b,p))(n:p){v}(f:AY g x v)(code:BoundsCode):
  (x=none/\v=none/\b=d)\/(∃u,x.isSome=ae/\v=ad u/\b<=m/\(TG u m code).run P W= .ok b W):=by
 unfold zi at a
 split at a
 .simp at a;cases v with
  |none=>exact .inl ⟨J,J,a.1.symm⟩
  |some u=>exact f.elim
 .rename_i s k;simp at a;obtain⟨rfl,rfl⟩:=a;cases v with
  |none=>exact f.elim
  |some u=>
   have i:u= .int s k:=f
   subst i
   have l:0<=k/\k<=(m:V):=n
   refine .inr ⟨_,J,J,Y,?_⟩
   simp[TG,asIntOf,l,mX,pure]
 .simp at a
def anD(cK:cE P tt=ae){t}{x cc}{lo hi mx}{p}(a:Uc tt t x lo hi mx=ad (cc,p))(hp:p){v}{vl vh vm}(hv:bh g x v)
  (hl:AY g lo vl) (hh:AY g hi vh) (hm:AY g mx vm):
  (∃z,(Ud t v vl vh vm).run P W= .ok z W/\bh g cc z)/\∀id∈cc.ak,id∈x.ak:=by
 unfold Uc at a
 split at a
 .rename_i id w k c sz A;let ⟨e,i,B,D,M⟩:=NW cK A;split at a
  .rename_i m Z H;split at a
   .rename_i f p2 s;split at a
    .rename_i l p3 E;simp only[aq,bM]at a;obtain⟨rfl,rfl⟩:=a;let ⟨F,O⟩:=Pr.I3 hp;let ⟨K,G⟩:=Pr.I3 O;obtain⟨b,IX,rfl⟩:=hv;have N:¬(mx.isSome=ae/\hi.isSome=ah):=by intro R;rw[q (by simp[R.1,R.2])]at s;cases s
     have j:zi m hi k=ad (f,p2):=by rw[y (by intro R;simp only[cP,Jt]at R;exact N R)]at s;exact s
     refine⟨⟨.slice (if m=l then ad ⟨b,w,none⟩else ad ⟨b,w+l*sz,none⟩) (f-l)<|m-l,?_,b,IX,?_⟩,tz⟩
     .have Q:(yY ae k c vl vh vm).run P W= .ok (l,f,m) W:=by
       unfold yY;rcases zj (P:=P) (W:=W) H F hm .slice3Acap with⟨S,rfl,rfl⟩|⟨u1,S,rfl,_,U⟩
       .rcases zj (P:=P) (W:=W) j K hh .sliceAcap with⟨X,rfl,rfl⟩|⟨u2,X,rfl,_,I⟩
        .rcases zj (P:=P) (W:=W) E G hl .sliceB with⟨T,rfl,rfl⟩|⟨u3,T,rfl,_,V⟩<;>simp[*]
        .rcases zj (P:=P) (W:=W) E G hl .sliceB with⟨T,rfl,rfl⟩|⟨u3,T,rfl,_,V⟩<;>simp[*]
       .rcases zj (P:=P) (W:=W) j K hh .slice3B with⟨X,rfl,rfl⟩|⟨u2,X,rfl,_,I⟩
        .exact aF ⟨S,by simp[X]⟩ N
        .rcases zj (P:=P) (W:=W) E G hl .slice3C with⟨T,rfl,rfl⟩|⟨u3,T,rfl,_,V⟩<;>simp[*]
      simp only[Ud,dH,run_underlying B,eo,abD,Q,run_sizeOf D,M];split<;>simp[pure,ns]
     .split<;>rfl
    .simp at a
   .simp at a
  .simp at a
 .rename_i id w k sz A;let ⟨e,i,B,D,M⟩:=NW cK A;split at a
  .split at a
   .rename_i f Z H;simp only[aq,bM]at a;obtain⟨rfl,rfl⟩:=a;obtain⟨h0,b,c,hγ,rfl,hle⟩:=hv;subst h0;have Bd:vl=none:=by cases vl with|none=>rfl|some _=>exact hl.elim
    have L:vm=none:=by cases vm with|none=>rfl|some _=>exact hm.elim
    subst Bd L;have o:=TF (P:=P) (W:=W) (n:=k) (x:=hi) (d:=k) (h:=f) (p:=Z) (by rw[<-H];cases hi with|none=>rfl|some jA=>cases jA with|c jA=>cases jA<;>rfl|_=>rfl) hp hh c hle .sliceAcap;have r:f<=k:=by rcases o with⟨_,_,e⟩|⟨_,_,a,_⟩<;>omega
    refine⟨⟨.slice (ad ⟨b,0,none⟩) f c,?_,J,b,c,hγ,J,Y⟩,tz⟩;have Q:(yY ae k c none vh none).run P W= .ok (0,f,c) W:=by unfold yY;rcases o with⟨_,rfl,rfl⟩|⟨u,rfl,_,U⟩<;>simp[*]
    simp only[Ud,dH,run_underlying B,eo,abD,Q,run_sizeOf D,M];simp[pure,ns]
   .simp at a
  .simp at a
 .rename_i sz A;let ⟨e,i,B,D,M⟩:=NW cK A;split at a
  .rename_i f Z H;split at a
   .rename_i l p2 s;simp only[aq,bM]at a;obtain⟨rfl,rfl⟩:=a;let ⟨F,K⟩:=Pr.I3 hp;have wc:v= .slice none 0 0:=hv;subst wc;have L:vm=none:=by cases vm with|none=>rfl|some _=>exact hm.elim
    subst L;refine⟨⟨.slice none 0 0,?_,J⟩,tz⟩;have Q:(yY ae 0 0 vl vh none).run P W= .ok (0,0,0) W:=by
     unfold yY;rcases zj (P:=P) (W:=W) H F hh .sliceAcap with⟨_,rfl,rfl⟩|⟨u1,_,rfl,Ue,U⟩
     .rcases zj (P:=P) (W:=W) s K hl .sliceB with⟨_,rfl,rfl⟩|⟨u2,_,rfl,r,I⟩
      .simp[*]
      .have:l=0:=by omega
       subst this;simp[*]
     .have:f=0:=by omega
      subst this;rcases zj (P:=P) (W:=W) s K hl .sliceB with⟨_,rfl,rfl⟩|⟨u2,_,rfl,r,I⟩
      .simp[*]
      .have:l=0:=by omega
       subst this;simp[*]
    simp only[Ud,dH,run_underlying B,eo,abD,Q,run_sizeOf D,M];simp[pure]
   .simp at a
  .simp at a
 .simp at a
def anE(f:cE P tt=ae){t r:G}{x i:AV}(d:NV tt t x=ad i){v:aT}(s:bh g x v):(Builtin.len_ #[t] r #[v]).run P W= .ok (match i with| .c (.I k n)=> .int k n|_=>undef) W/\(∃n:V,i= .c (.I .i64 n)):=by
 unfold NV at d;split at d
 .rename_i C u;split at d
  .rename_i e z;split at d
   .rename_i D A l m _;simp at d;subst d;have h2:=(fw f u).kind;rw[z]at h2;have p:∃a c,v= .slice a l c:=by
     cases m with
     |some c=>let ⟨b,B,h2⟩:=s;exact⟨_,c,h2⟩
     |none=>let ⟨H,b,c,B,h2,_⟩:=s;exact⟨_,c,h2⟩
    obtain⟨a,c,rfl⟩:=p;exact⟨Nl,_,J⟩
   .simp at d
  .simp at d
 .simp at d
def abE(cK:cE P tt=ae){ops}{i}{N:a8}{d:G}(ho:ops[i]? =ad N)(hg:N.guard=none)(hd:N.dst=ad d){n}(dG:d<n)
 {Q}{x}{p}(b:Gs tt Q N.op=ad (x,p)) (hp:p) new:jd P n ops i (qe Q N.op) [(.s d,ad<|.v x)] new:=by
 refine uO ho hg hd dG _ x new ?_
 intro F X σ g W a k U
 have B:∀y∈N.op.operands,∀R∈cQ Q y,σ R.1=ad R.2:=by intro y T R V;exact U R<|js.2 ⟨y,by simpa using T,V⟩
 have f:∀y∈N.op.operands,∀u,Q.ev y=ad u->bh g u (a.eval y)/\∀j∈u.ak,X j:=by intro y T u S;exact⟨dY k Q y u S<|B y T,tx k Q y u S<|B y T⟩
 generalize H:N.op=op at b f B
 unfold Gs at b
 split at b
 .rename_i c y z;unfold abC at b;split at b
  next v Y T=>simp only[aq,bM]at b;obtain⟨rfl,rfl⟩:=b;have Z:a.eval c= .bool ae:=(f c iL _ Y).1;have D:=f y iL _ T;exact⟨D.2,_,by simp[execOp,H,Z,asBool,mX,pure],D.1⟩
  next v Y T=>simp only[aq,bM]at b;obtain⟨rfl,rfl⟩:=b;have Z:a.eval c= .bool ah:=(f c iL _ Y).1;have D:=f z iL _ T;exact⟨D.2,_,by simp[execOp,H,Z,asBool,mX,pure],D.1⟩
  .simp at b
 .rename_i t y z;split at b
  next v w L hw=>have D:=f y iL _ L;let ⟨⟨u,A,K⟩,M⟩:=anC (P:=P) (W:=W) cK b hp D.1 (f z iL _ hw).1;exact⟨λj E=>D.2 j<|M j E,u,by simp[execOp,H,A,mX,pure],K⟩
  .simp at b
 .rename_i t y lo hi mx;split at b
  next v l h m L hl hh M=>have D:=f y iL _ L;let ⟨⟨u,A,K⟩,M⟩:=anD (P:=P) (W:=W) cK b hp D.1 (Jb k Q lo l hl<|λq hq=>B q Jc) (Jb k Q hi h hh<|λq hq=>B q Jc)<|Jb k Q mx m M<|λq hq=>B q Jc;exact⟨λj E=>D.2 j<|M j E,u,by simp[execOp,H,A,mX,pure],K⟩
  .simp at b
 .rename_i args kH;split at b
  .rename_i y t ha ht;have I:args= #[y]:=Jd;have O:kH= #[t]:=TH;subst I O;split at b
   .rename_i v L;split at b
    next u S=>simp only[aq,bM]at b;obtain⟨rfl,rfl⟩:=b;have D:=f y FO _ L;obtain⟨A,n',rfl⟩:=anE (P:=P) (W:=W) (r:=N.type) cK S D.1;exact⟨tz,.int .i64 n',Gk H (λcs=>by have e:(#[y]:Array fE).map a.eval= #[a.eval y]:=au;rw[e];simp only[Go.builtin,dH,A,eo];rfl),J⟩
    .simp at b
   .simp at b
  .simp at b
 .simp at b
end
section
variable{P:bW}{tt:TT}
def Uf{ops}{i}{N:a8}{d:G}(ho:ops[i]? =ad N)(hg:N.guard=none)(hd:N.dst=ad d){n}(dG:d<n){bt}rd cs sz len z(p:G)
  (cA:∀(hZ:dO)(f:G->Prop)(σ:Kn)(g:Gh)(W:cJ)(a:Act),aR hZ f σ g W a->(∀kx∈rd,σ kx.1=ad kx.2)->
   (∀A∈b6 cs,f A)/\∃(vs rest:E aT)(l:G)(W1:cJ),a6 g cs vs/\(execOp a.eval N).run P W= .ok (.value<|.slice (ad ⟨W.heap.size,0,none⟩) len l) {W1 with heap:=W.heap.push<|.cells (vs++rest).toArray bt (0,0)}/\
    W1.os=W.os/\W1.tape=W.tape/\W1.output=W.output/\(∀dU,z=ad dU->l=dU)/\(sz≠0->Z (vs++rest)=l*sz)/\len<=l):
  jd P n ops i rd [(.s d,ad<|.v<|.c<|.L p 0 len z),(.m p,ad<|.b<|.box bt sz cs)] p:=by
 intro hZ lM Q f σ g W a K T aX R V
 let ⟨hm,vs,rest,l,W1,hr,j,Y,e2,e3,q,r,hlen⟩:=cA hZ f σ g W a aX R
 unfold wpOp
 simp only[ho,iv,hg,cz]
 refine .inl ?_
 unfold p'
 rw[j]
 simp only[ph,hd]
 have S:d<a.tmps.size:=nX
 let X:Gh:=⟨g.H,λA=>if A=p then .slice (ad ⟨W.heap.size,0,none⟩) 0 l else g.γ A⟩
 have B:X.γ p= .slice (ad ⟨W.heap.size,0,none⟩) 0 l:=by simp[X]
 have w:gN f g X:=⟨cL.refl _,λA x=>by
  have:A≠p:=λe=>T<|e▸x
  simp[X,this]⟩
 have D:∀N,g.H W.heap.size N=none:=by
  intro N;cases hv:g.H W.heap.size N with
  |none=>rfl
  |some v=>
   have:=C5 W _<|aX.sub _ _ _ hv
   simp at this
 have I:Sub g.H {W1 with heap:=W.heap.push<|.cells (vs++rest).toArray bt (0,0)}:=by have:=C4 aX.sub<|.cells (vs++rest).toArray bt (0,0);exact this
 refine V X _ _<|aX.step (chg:=λ_=>False) (g':=X) ⟨w,λ_ _ _=>rfl,I,au,λk O _=>FU W _ k O,Y,e2,e3⟩ _ p T pj aX.defers ?_ (λ_ cA=>cA.elim) ?_ ?_ ?_ ?_
 .intro t ht;have U:d≠t:=uR;simp[iK,l0 U]
 .intro t u ht;simp only[aD]at ht;split at ht
  .rename_i e;simp only[Key.s.injEq]at e;simp only[aq,Info.v.injEq]at ht;subst e;subst ht;have M:(a.put (ad d)<|.slice (ad ⟨W.heap.size,0,none⟩) len l).tmps.getD d undef= .slice (ad ⟨W.heap.size,0,none⟩) len l:=by simp[iK,S]
   show de X _ _;rw[M];cases z with
   |some dU=>have:=q dU J;subst this;exact⟨W.heap.size,by rw[B];rfl,J⟩
   |none=>exact⟨J,W.heap.size,l,B,J,hlen⟩
  .split at ht
   .simp at ht
   .simp at ht
 .intro A b ht;simp only[aD,reduceCtorEq,b8]at ht;split at ht
  next e=>simp only[Key.m.injEq]at e;subst e;simp only[aq,Info.b.injEq]at ht;subst ht;refine⟨⟨W.heap.size,vs,rest,by rw[B];rfl,au,a6.mono w hm hr,.inl aX.below.size,D,λh0=>⟨l,B,r h0⟩⟩,.inr ⟨J,λk O=> .inl ?_⟩⟩;rw[B]at O;simp only[cO,aq]at O;omega
  .simp at ht
 .intro k y ht;simp only[aD]at ht;split at ht
  .simp only[aq]at ht;subst ht;intro A x;simp[Info.ak,AV.ak,C.ak]at x;exact .inr x
  .split at ht
   .simp only[aq]at ht;subst ht;exact λA x=> .inl<|hm A x
   .simp at ht
 .intro A y ht;simp only[aD,reduceCtorEq,b8]at ht;split at ht
  next e=>simp only[Key.m.injEq]at e;exact .inr e.symm
  .simp at ht
def anF(cK:cE P tt=ae){D}{i}{H:a8}{d:G}(ho:D[i]? =ad H)(hg:H.guard=none)(hd:H.dst=ad d){n}(dG:d<n){t}{x cc}(b9:H.op= .makeSlice t x cc)
 {st}{m:G} {k k2}(hx:st.ev x=ad (.c<|.I k (m:V))) (hy:st.ev cc=ad (.c<|.I k2 (m:V))) {bt}{ti f:TI} (pq:o t tt=ad ti) (hk:ti.kind= .sl bt) (ny:o bt tt=ad f) (abF:0<f.size) (hb:m*f.bytes<=16777216) (n6:m<=16777216) (p:G):
  jd P n D i (qe st H.op) [(.s d,ad<|.v<|.c<|.L p 0 m<|ad m),(.m p,ad<|.b<|.box bt 0<|Ge (f.zero.map ZV.qP) m)] p:=by
 refine Uf ho hg hd dG _ _ _ _ _ p ?_
 intro F h S g W a A C
 have O:a.eval x= .int k (m:V):=dY A st x _ hx<|λj cy=>C j T3
 have q:a.eval cc= .int k2 (m:V):=dY A st cc _ hy<|λj cy=>C j T3
 have M:=(fw cK pq).kind
 rw[hk]at M
 let ⟨inf,K,N,Q,z,r,y8⟩:=(fw cK ny).info
 have B:Z (f.zero.map ZV.fU)=f.size:=Ua
 have T:z.cells=(f.zero.map ZV.fU).toArray:=FX
 have X:(f.zero.map ZV.fU)≠[]:=by intro e;rw[e]at B;simp at B;omega
 have w:(inf.bytes:V)*(m:V)<=281474976710656:=by
  rw[Q];have:(f.bytes:V)*(m:V)=((m*f.bytes:G):V):=by rw[gA];simp
  rw[this];omega
 have l:=run_make (P:=P) W t bt inf z M K r k k2 m m Y Y w Y
 refine⟨T9,(bx m<|f.zero.map ZV.fU).flatten,[],m,W,NO (A4 g f.zero) m,?_,J,J,J,λc R=>JI R,au,aL _⟩
 rw[execOp,b9]
 have u:madeCells z.cells (m*inf.size)=((bx m<|f.zero.map ZV.fU).flatten).toArray:=by rw[N,T,<-B,<-NH _ m X];rfl
 simp only[cC]at l
 rw[u]at l
 simp only[O,q,dH,l,eo,ji]
 rfl
def anG(cK:cE P tt=ae){hZ}{l:G->Prop}{σ}{g}{W}{a}(D:aR hZ l σ g W a){st}{aG}{t b}{d}(b9:aG.op= .buildSlice t b d){bt}{ei}{A}(abF:0<ei.size)(ann:b*ei.size<=16777216)
  (m:xP tt st t b d.toList=ad (bt,ei,A)) (iB:∀kx∈qe st aG.op,σ kx.1=ad kx.2):
  ∃u:E aT,(execOp a.eval aG).run P W= .ok (.value<|.slice (ad ⟨W.heap.size,0,none⟩) b b) {W with heap:=W.heap.push<|.cells u.toArray bt (0,0)}/\a6 g A u/\Z u=b*ei.size/\∀id∈b6 A,l id:=by
 unfold xP at m
 split at m
 .rename_i ti c;split at m
  .rename_i O S;split at m
   .rename_i k ny;split at m
    .rename_i cs j;simp only[aq,bM]at m;obtain⟨rfl,rfl,rfl⟩:=m;have R:=(fw cK c).kind;rw[S]at R;let ⟨inf,xG,H,_,z,hz,y8⟩:=(fw cK ny).info;have K:z.cells=(k.zero.map ZV.fU).toArray:=FX;let ⟨u,N,jN,q,r⟩:=Jo D st (xO k.size 0 b) (λi=>ad (i*k.size,k.size)) (λi x h=>by rw[NN _ _ _ _ _ h];simp) d.toList _ _ _ j (NO (A4 g k.zero) b) (λp U kx w=>iB kx<|by rw[b9];refine js.2 ⟨p.2,?_,w⟩;simp only[Op.operands,kd];exact⟨p,U,J⟩) T9;have n:Z (k.zero.map ZV.fU)=k.size:=Ua;have Q:Z u=b*k.size:=by rw[q,abj,n]
     refine⟨u,?_,jN,Q,r⟩;have B:execOp a.eval aG=(do pure (.value<|<-JC t b (d.map λ(i,x)=>(i,a.eval x)))):=xE;have T:(d.map λ(i,x)=>(i,a.eval x)).toList=d.toList.map λp=>(p.1,a.eval p.2):=au
     have I:(zeroValue O).run P W= .ok z W:=TX;have s:((Array.range<|b*k.size).map<|λi=>(k.zero.map ZV.fU).toArray[i%(k.zero.map ZV.fU).toArray.size]!)=((bx b<|k.zero.map ZV.fU).flatten).toArray:=by have:=NH (k.zero.map ZV.fU) b (by intro e;rw[e]at n;simp at n;omega);rw[n]at this;exact this
     have V:(JC t b<|d.map λ(i,x)=>(i,a.eval x)).run P W= .ok (.slice (ad ⟨W.heap.size,0,none⟩) b b) {W with heap:=W.heap.push<|.cells u.toArray O (0,0)}:=by
      unfold JC;rw[dH,run_underlying R];simp only[eo];rw[dH,run_sizeOf xG];simp only[eo,H];rw[y Y];by_cases X:b*k.size=0
      .have C:b=0:=by
        rcases Nat.mul_eq_zero.1 X with h|h
        .exact h
        .omega
       subst C;have L:u=[]:=gx (by rw[Q];simp);subst L;have v:=N;simp only[Gf,List.flatten_nil]at v;have M:∀f:G->aT,(Array.range 0).map f= #[]:=λf=>by simp
       simp only[so,cz,pure_bind,M,T,v];rfl
      .rw[y X];simp only[pure_bind,dH,I,eo,K,s,T,N];rfl
     rw[B,dH,V];rfl
    .simp at m
   .simp at m
  .simp at m
 .simp at m
def anH(D:cE P tt=ae){u}{i}{x:a8}{d:G}(ho:u[i]? =ad x)(hg:x.guard=none)(hd:x.dst=ad d){n}(H:d<n){t f:G}{k}(N:x.op= .buildSlice t f k)
 {T}{bt}{Q}{cs}(z:0<Q.size) (l:f*Q.size<=16777216) (hv:xP tt T t f k.toList=ad (bt,Q,cs)) (p:G):
  jd P n u i (qe T x.op) [(.s d,ad<|.v<|.c<|.L p 0 f<|ad f),(.m p,ad<|.b<|.box bt 0 cs)] p:=by
 refine Uf ho hg hd H _ _ _ _ _ p ?_
 intro F C e g W a A K
 let ⟨us,B,hr,hl,hm⟩:=anG D A N z l hv K
 exact⟨hm,us,[],f,W,hr,by simpa using B,J,J,J,λc X=>JI X,au,aL _⟩
end
def we(b:St)(sz:G):AV->aw (G×E C×E G)
 | .c (.L id off len _)=>(match o id b.mem with
  |some (.box _ _ cs)=>if off+len*sz<=Z cs then ad (len,(az off cs).take<|len*sz,[id])else none
  |some (.fz _ cs)=>if off+len*sz<=Z cs then ad (len,(az off cs).take<|len*sz,[id])else none
  |_=>none)
 | .c (.S T a)=>if T.n=sz then ad (Z a,a.flatMap<|av T,[])else none
 | .c (.V<|.slice none 0 0)=>ad (0,[],[])
 |_=>none
section
variable{P:bW}{tt:TT}
def Ug{u}(a:po u=ae):u.oneCell'=ae:=by revert a;cases u<;>simp[po,Value.oneCell']
def abG{T:ET}:∀(d:E T.den),∀b∈d.flatMap (av T),lO b=ae
 |[],b,a=>by simp at a
 |f::d,b,a=>by
  simp only[l6,bl]at a;rcases a with a|a
  .exact FV T f b a
  .exact abG d b a
def abH{T:ET}:∀(d:E T.den),b6 (d.flatMap<|av T)=[]
 |[]=>rfl
 |g::d=>by
  refine T8.2 λf a=>?_
  rw[l6]at a;rcases FR _ _ f a with b|b
  .rw[Ji]at b;cases b
  .rw[abH d]at b;cases b
def abI{g:Gh}(T:ET):∀(xs:E T.den)(vs:E aT),Z vs=Z xs*T.n->(∀i(a:i<Z xs),dq g.H T xs[i] ((az (i*T.n) vs).take T.n))->a6 g (xs.flatMap<|av T) vs
 |[],vs,hl,_=>by have:vs=[]:=gx vU;subst this;rfl
 |x::xs,vs,hl,a=>by rw[l6];have b:=a 0 au;simp[so,sr,xC]at b;have:=a6.append (AS (g:=g) T x _ b) (abI T xs (az T.n vs) (by simp at hl⊢;rw[hl,gY];omega)<|λi d=>by have:=a (i+1) (by simpa using d);simp[C2]at this;rw[se];rw[(Ja:T.n+i*T.n=(i+1)*T.n)];exact this);rwa[uX]at this
def Dq{hZ}{x:G->Prop}{σ}{g}{W}{a}(i:aR hZ x σ g W a){st}{y}{sz m}{cs}{ids}(k:we st sz y=ad (m,cs,ids)){v}(Q:bh g y v)
  (iB:∀N∈ids,∀b,o N st.mem=ad b->σ (.m N)=ad (.b b)) {t cH}(hu:P.underlying t=ad (.slice cH)) (sy:cs.all lO=ae):
  ∃H:E aT,Src P sz t v m H W/\a6 g cs H/\(∀N∈b6 cs,x N)/\∀u∈H,po u=ae:=by
 have p:∀H,a6 g cs H->∀u∈H,po u=ae:=λH K=>K.one<|λc hc=>nY.1 sy c hc
 unfold we at k
 split at k
 .rename_i N d f X;split at k
  .rename_i bt bz q R;split at k
   .rename_i M;simp at k;obtain⟨rfl,rfl,rfl⟩:=k;have z:=iB N au _ R;let ⟨b,vs,rest,l,hh,K,hN,hz,wg⟩:=i.cM N _ z;have A:∃c,v= .slice (ad ⟨b,d,none⟩) f c:=by
     cases X with
     |some c=>
      let ⟨S,s,h2⟩:=Q
      rw[l]at s
      cases s
      exact⟨c,h2⟩
     |none=>
      let ⟨U,S,c,s,h2,_⟩:=Q
      rw[s]at l
      simp[cO]at l
      subst l U
      exact⟨c,h2⟩
    obtain⟨c,rfl⟩:=A;have n:a6 g ((az d q).take<|f*sz) ((az d vs).take<|f*sz):=(K.drop d).take _;have V:=K.length;have B:Z ((az d vs).take<|f*sz)=f*sz:=cd;refine⟨_,Src.ofSlice W hu ⟨b,d,none⟩ f c _ B ?_<|λu r=>Ug<|p _ n u r,n,?_,p _ n⟩
    .intro j u Y;let ⟨w,C⟩:=qQ.1 Y;simp[tD,vV]at C;have I:d+j<Z vs:=by rw[B]at w;omega
     simp[ns];rw[xD hh (d+j) cd,sa I,C]
    .intro L D;exact i.ak _ _ z L<|I5 _ _ _<|FM _ _ _ D
   .simp at k
  .rename_i bt q R;split at k
   .rename_i M;simp at k;obtain⟨rfl,rfl,rfl⟩:=k;have z:=iB N au _ R;let ⟨b,vs,rest,l,hh,K,hN,hz⟩:=i.cM N _ z;have A:∃c,v= .slice (ad ⟨b,d,none⟩) f c:=by
     cases X with
     |some c=>
      let ⟨S,s,h2⟩:=Q
      rw[l]at s
      cases s
      exact⟨c,h2⟩
     |none=>
      let ⟨U,S,c,s,h2,_⟩:=Q
      rw[s]at l
      simp[cO]at l
      subst l U
      exact⟨c,h2⟩
    obtain⟨c,rfl⟩:=A;have n:a6 g ((az d q).take<|f*sz) ((az d vs).take<|f*sz):=(K.drop d).take _;have V:=K.length;have B:Z ((az d vs).take<|f*sz)=f*sz:=cd;refine⟨_,Src.ofSlice W hu ⟨b,d,none⟩ f c _ B ?_<|λu r=>Ug<|p _ n u r,n,?_,p _ n⟩
    .intro j u Y;let ⟨w,C⟩:=qQ.1 Y;simp[tD,vV]at C;have I:d+j<Z vs:=by rw[B]at w;omega
     simp[ns];rw[xD hh (d+j) cd,sa I,C]
    .intro L D;exact i.ak _ _ z L<|I5 _ _ _<|FM _ _ _ D
   .simp at k
  .simp at k
 .rename_i T ys;split at k
  .rename_i hT;simp at k;obtain⟨rfl,rfl,rfl⟩:=k;subst hT;let ⟨H,s,h2,h3,h4⟩:=abu (P:=P) Q;have O:∀w':cJ,(Builtin.lenOf v).run P w'= .ok (Z ys) w':=by obtain⟨a,X,rfl,_⟩:=Q;intro w';rfl
   exact⟨H,⟨.inl ⟨_,hu⟩,O,s W i.sub,s W.drew i.sub,h2,λu hu=>Ug<|h4 u hu⟩,abI T ys H h2 h3,by rw[abH];simp,h4⟩
  .simp at k
 .simp at k;obtain⟨rfl,rfl,rfl⟩:=k;have A:v= .slice none 0 0:=Q;subst A;exact⟨[],Src.ofNil W hu 0,J,by simp[b6],au⟩
 .simp at k
def abJ{W}{n p ty s}{a:TypeInfo}(i:P.underlying n=ad (.slice s))(A:P.info? s=ad a){b off sLen sCap}{t}{m}
 {d vs}{v}(k:Src P a.size p t m d W) (B:W.heap[b]? =ad (.cells vs.toArray v (0,0))) (f:∀u∈d,po u=ae) (l:sLen+m<=sCap) (x:off+sLen*a.size+Z d<=Z vs):
  (zf #[n,p] ty #[.slice (ad ⟨b,off,none⟩) sLen sCap,t]).run P W= .ok (.slice (ad ⟨b,off,none⟩) (sLen+m) sCap) (jy W b (cR vs d<|off+sLen*a.size) v):=by
 have g:=A1 (P:=P) b d W vs (off+sLen*a.size) 0 B Y f
 simp[jZ]at g
 rcases k.kind with⟨C,z⟩|z<;>
  simp[zf,run_underlying i,run_underlying z,sizeOf,typeInfo,A,k.len,l,k.cells,ns,g]
structure Gt(P:bW)(b t2 E:TypeId)(sz:G)(bytes:G):Prop where
 u1:P.underlying b=ad (.slice E)
 u2:∃e,P.underlying t2=ad (.slice e)
 info:∃a z,P.info? E=ad a/\a.size=sz/\a.bytes=bytes/\a.zero=ad z/\z.cells.size=sz
 pos:0<sz
def Uh(a:St)(sz:G):AV->aw (G×G×E C×E G)
 | .c (.L id off len<|ad b)=>(match o id a.mem with
  |some (.box _ _ cs)=>if off+len*sz<=Z cs then ad (len,b,(az off cs).take<|len*sz,[id])else none
  |_=>none)
 | .c (.V<|.slice none 0 0)=>ad (0,0,[],[])
 |_=>none
def zk{st}{ids}{σ:Kn}(g:∀f∈fZ st ids,σ f.1=ad f.2):∀a∈ids,∀b,o a st.mem=ad b->σ (.m a)=ad (.b b):=by intro a d b i;exact g (.m a,.b b)<|js.2 ⟨a,d,by simp[i]⟩
def NX{a:Act}{d}{x b}{g i}(f:d.op= .call ⟨.builtin .append,#[x,b],#[g,i]⟩){W k}{v}(l:(zf #[g,i] d.type #[a.eval x,a.eval b]).run P W= .ok v k):(execOp a.eval d).run P W= .ok (.value v) k:=by refine Gk f<|λm=>?_;have e:(#[x,b]:Array fE).map a.eval= #[a.eval x,a.eval b]:=au;rw[e];simp only[Go.builtin,dH,l,eo];rfl
def abK{ops}{i}{aG:a8}{d:G}(ho:ops[i]? =ad aG)(hg:aG.guard=none)(hd:aG.dst=ad d){n}(dG:d<n){x cc}{t1 t2}(b9:aG.op= .call ⟨.builtin .append,#[x,cc],#[t1,t2]⟩)
 {D}{T}{sz A}(hT:Gt P t1 t2 T sz A) {vx vy:AV} (hx:D.ev x=ad vx) (hy:D.ev cc=ad vy) {len c m:G} {cb cs:E C} {ib is:E G} (p:Uh D sz vx=ad (len,c,cb,ib)) (hs:we D sz vy=ad (m,cs,is)) (sy:cs.all lO=ae)
  (JJ:c<len+m) (N:((len+m)+(len+m)/4+192)*A<=281474976710656) (anI:len+m<=140737488355328) (Q:G):
  jd P n ops i (cQ D x++cQ D cc++fZ D (ib++is)) [(.s d,ad<|.v<|.c<|.L Q 0 (len+m) none),(.m Q,ad<|.b<|.box T sz<|cb++cs)] Q:=by
 refine Uf ho hg hd dG _ _ _ _ _ Q ?_
 intro F X σ g W a k e
 have w:=dY k D x _ hx<|λI cy=>e I e9
 have M:=zk (st:=D) (ids:=ib++is) (σ:=σ)<|λI cy=>e I e9
 let ⟨e2,jN⟩:=hT.u2
 let ⟨inf,z,O,xQ,R,zh,v8⟩:=hT.info
 let ⟨us,Bg,zl,tL,zm⟩:=Dq (P:=P) k hs (dY k D cc _ hy<|λI cy=>e I e9) (λH q b p=>M H (gO _ q) b p) jN sy
 have r:∃(base:aw Addr)(f:E aT),a.eval x= .slice base len c/\a6 g cb f/\Z f=len*sz/\(∀H∈b6 cb,X H)/\(Bf inf.size len<|.slice base len c).run P W.drew= .ok f.toArray W.drew:=by
  unfold Uh at p;split at p
  .rename_i H t l c';split at p
   .rename_i E' bz q5 hl;split at p
    .rename_i NY;simp only[aq,bM]at p;obtain⟨rfl,rfl,rfl,rfl⟩:=p;have S:=M H au _ hl;let ⟨b,vs,rest,hγ,hh,hr,hN,hz,wg⟩:=k.cM H _ S;let ⟨b',h1,h2⟩:=w;rw[hγ]at h1;cases h1;have Bd:=hr.length;have B:Z ((az t vs).take<|l*sz)=l*sz:=cd;refine⟨_,(az t vs).take<|l*sz,h2,(hr.drop t).take _,B,?_,?_⟩
     .intro qi U;exact k.ak _ _ S qi<|I5 _ _ _<|FM _ _ _ U
     .rw[xQ];refine run_firstCells_some W.drew sz l ⟨b,t,none⟩ l c' _ B ?_;intro j u hj;let ⟨FD,V⟩:=qQ.1 hj;simp only[tD,vV]at V;have JK:t+j<Z vs:=by rw[B]at FD;omega
      simp only[ns];have JG:W.drew.heap[b]? =ad (.cells (vs++rest).toArray E' (0,0)):=hh;rw[xD JG (t+j) cd,sa JK,V]
    .simp at p
   .simp at p
  .simp only[aq,bM]at p;obtain⟨rfl,rfl,rfl,rfl⟩:=p;have wc:a.eval x= .slice none 0 0:=w;exact⟨none,[],wc,J,au,by simp[b6],run_firstCells_none W.drew _ 0 0 0⟩
  .simp at p
 let ⟨base,f,Bh,hro,hol,JL,Ui⟩:=r
 have xF:=grownCap_ge W (len+m) c T
 refine⟨?_,f++us,(Uj z.cells<|grownCap W (len+m) c T-(len+m)).toList,grownCap W (len+m) c T,W.drew,hro.append zl,?_,J,J,J,au,λ_=>?_,xF⟩
 .intro H q;rcases FR _ _ H q with h|h
  .exact JL H h
  .exact tL H h
 .refine NX b9 ?_;rw[Bh,run_append_grow_src (P:=P) W t1 t2 aG.type T inf z hT.u1 O zh base len c f Ui (a.eval cc) m us NZ JJ Y (growslice_fits_wide JJ<|by rw[R];exact N)];have K:(f++us).toArray++Uj z.cells (grownCap W (len+m) c T-(len+m))=(f++us++(Uj z.cells<|grownCap W (len+m) c T-(len+m)).toList).toArray:=by apply FP;simp
  rw[K];rfl
 .simp only[iV,hol,Bg.newsLen,JE,size_zeroCells,v8,<-gY];congr 1;omega
def anK{p}{i}{D:a8}{d:G}(ho:p[i]? =ad D)(hg:D.guard=none)(hd:D.dst=ad d){n}(N:d<n){x H}{t1 t2}(Q:D.op= .call ⟨.builtin .append,#[x,H],#[t1,t2]⟩)
 {f}{bt}{sz l}(T:Gt P t1 t2 bt sz l) {vy:AV} (hx:f.ev x=ad (.c<|.V<|.slice none 0 0)) (hy:f.ev H=ad vy) {cs:E C} {is:E G} (hs:we f sz vy=ad (0,cs,is)) (sy:cs.all lO=ae) (t:G):
  jd P n p i (cQ f x++cQ f H++fZ f is) [(.s d,ad<|.v<|.c<|.V<|.slice none 0 0)] t:=by
 refine uO ho hg hd N _ _ t ?_
 intro F K r g W a b m
 have X:a.eval x= .slice none 0 0:=dY b f x _ hx<|λu cy=>m u e9
 let ⟨R,jN⟩:=T.u2
 let ⟨inf,z,A,B,j,w,I⟩:=T.info
 let ⟨us,k,L,M,O⟩:=Dq (P:=P) b hs (dY b f H _ hy<|λu cy=>m u e9) (zk (st:=f) (ids:=is) (σ:=r)<|λu cy=>m u e9) jN sy
 refine⟨tz,.slice none 0 0,NX Q ?_,J⟩
 rw[X]
 have q:=k.cells
 rw[<-B]at q
 simp[zf,run_underlying T.u1,run_underlying jN,sizeOf,typeInfo,A,k.len]
 rw[q]
 rfl
def JM{a:Act}{d t}{v}{f:E (Key×aw Info)}{x}(ht:aD ((.s d,x)::f) (.s t)=none):(a.put (ad d) v).tmps.getD t undef=a.tmps.getD t undef:=by have b:d≠t:=uR;simp[iK,l0 b]
def anL{ops}{i}{aG:a8}{d:G}(ho:ops[i]? =ad aG)(hg:aG.guard=none)(hd:aG.dst=ad d){n}(dG:d<n){x cc}{t1 t2}(b9:aG.op= .call ⟨.builtin .append,#[x,cc],#[t1,t2]⟩)
 {H}{bt}{sz bytes}(hT:Gt P t1 t2 bt sz bytes) {B p f dU:G} {vy:AV} (hx:H.ev x=ad (.c<|.L B p f<|ad dU)) (hy:H.ev cc=ad vy) {Eb:TypeId} {bz:G} {q5:E C} (hl:o B H.mem=ad (.box Eb bz q5)) {m:G} {cs:E C} {is:E G} (hs:we H sz vy=ad (m,cs,is)) (sy:cs.all lO=ae)
  (hle:f+m<=dU) (NY:p+(f+m)*sz<=Z q5) (new:G):
  jd P n ops i (cQ H x++cQ H cc++fZ H (B::is)) [(.s d,ad<|.v<|.c<|.L B p (f+m)<|ad dU),(.m B,ad<|.b<|.box Eb bz<|cR q5 cs<|p+f*sz)] new:=by
 intro F lM Q V σ g W a K w aX X hK
 have M:=zk (st:=H) (ids:=B::is) (σ:=σ)<|λI cy=>X I N0
 let ⟨e2,jN⟩:=hT.u2
 let ⟨inf,z,O,xQ,Gn,zh,v8⟩:=hT.info
 let ⟨us,Bg,R,tL,zm⟩:=Dq (P:=P) aX hs (dY aX H cc _ hy<|λI cy=>X I e9) (λB aY b hb=>M B (ls _ aY) b hb) jN sy
 have A:=M B au _ hl
 let ⟨b,vs,rest,N,hh,hr,hN,hz,wg⟩:=aX.cM B _ A
 let ⟨b',h1,Bh⟩:=(dY aX H x _ hx<|λI cy=>X I e9)
 rw[N]at h1
 cases h1
 have lA:=Bg.newsLen
 have oF:=R.length
 have Bd:=hr.length
 have oM:(f+m)*sz=f*sz+m*sz:=gY _ _ _
 have q:p+f*sz+Z us<=Z vs:=Y
 have T:=abJ (P:=P) (ty:=aG.type) (W:=W) hT.u1 O (b:=b) (off:=p) (sLen:=f) (sCap:=dU) NZ hh zm hle (by rw[xQ];simp;omega)
 rw[xQ]at T
 have tE:cR (vs++rest) us (p+f*sz)=cR vs us (p+f*sz)++rest:=Np vs rest us _ q
 unfold wpOp
 simp only[ho,iv,hg,cz]
 refine .inl ?_
 unfold p'
 rw[NX b9 (by rw[Bh];exact T)]
 simp only[ph,hd]
 have S:d<a.tmps.size:=nX
 have hb:b<W.heap.size:=(fY.1 hh).1
 refine hK g _ _<|aX.step (chg:=λj=>j=B) (g':=g) ⟨⟨cL.refl _,λ_ _=>rfl⟩,λ_ _ _=>rfl,A2 aX.sub hz,A3,?_,J,J,J⟩ _ new w pj aX.defers (λt r=>JM r) ?_ ?_ ?_ ?_ ?_
 .intro k hk eZ;have:b≠k:=λe=>eZ B J (by rw[N,e])
  exact y4 this
 .intro j D;subst D;exact⟨y7,_,A⟩
 .intro t u r;simp only[aD]at r;split at r
  next e=>simp only[Key.s.injEq]at e;simp only[aq,Info.v.injEq]at r;subst e;subst r;refine⟨b,N,?_⟩;simp[iK,S]
  .simp at r
 .intro j bk D;simp only[aD,reduceCtorEq,b8]at D;split at D
  next U=>simp only[Key.m.injEq]at U;subst U;simp only[aq,Info.b.injEq]at D;subst D;refine⟨⟨b,cR vs us<|p+f*sz,rest,N,Nq,hr.cR R _,hN,hz,λh0=>?_⟩,.inl ⟨aX.dX _ _ A,_,A⟩⟩;let ⟨c',e1,e2⟩:=wg h0;refine⟨c',e1,?_⟩;rw[<-tE,y5 _ _ _ cd];exact e2
  .simp at D
 .intro k z' l;simp only[aD]at l;split at l
  .simp only[aq]at l;subst l;intro j D;simp[Info.ak,AV.ak,C.ak]at D;subst D;exact .inl<|aX.dX _ _ A
  .split at l
   .simp only[aq]at l;subst l;intro j D;rcases FT _ _ _ j D with h|h
    .exact .inl<|aX.ak _ _ A j h
    .exact .inl<|tL j h
   .simp at l
 .intro j z' l;simp only[aD,reduceCtorEq,b8]at l;split at l
  next U=>simp only[Key.m.injEq]at U;subst U;exact .inl<|aX.dX _ _ A
  .simp at l
def anM{ops}{i}{aG:a8}{d:G}(ho:ops[i]? =ad aG)(hg:aG.guard=none)(hd:aG.dst=ad d){n}(dG:d<n){x cc}{t1 t2}(b9:aG.op= .call ⟨.builtin .append,#[x,cc],#[t1,t2]⟩)
 {st}{bt}{sz bytes}(hT:Gt P t1 t2 bt sz bytes) {A off f:G} {vy:AV} (hx:st.ev x=ad (.c<|.L A off f none)) (hy:st.ev cc=ad vy) {q5:E C} (hl:o A st.mem=ad (.box bt sz q5)) {m:G} {cs:E C} {is:E G} (hs:we st sz vy=ad (m,cs,is)) (sy:cs.all lO=ae)
  (NY:f*sz<=Z q5) (anN:((f+m)+(f+m)/4+192)*bytes<=281474976710656) (anI:f+m<=140737488355328) (B:G):
  jd P n ops i (cQ st x++cQ st cc++fZ st (A::is)) [(.s d,ad<|.v<|.c<|.L B 0 (f+m) none),(.m B,ad<|.b<|.box bt sz<|r (f*sz) q5++cs),(.m A,none)] B:=by
 intro F lM Q q σ g W a K w aX iB hK
 have oN:=zk (st:=st) (ids:=A::is) (σ:=σ)<|λkx cy=>iB kx N0
 let ⟨e2,jN⟩:=hT.u2
 let ⟨inf,z,xG,xQ,Gn,zh,v8⟩:=hT.info
 let ⟨us,Bg,zl,tL,zm⟩:=Dq (P:=P) aX hs (dY aX st cc _ hy<|λkx cy=>iB kx e9) (λA aY b hb=>oN A (ls _ aY) b hb) jN sy
 have I:=oN A au _ hl
 have abF:=hT.pos
 let ⟨b,vs,rest,hγ,hh,hr,hN,hz,wg⟩:=aX.cM A _ I
 let ⟨c,anO,anP⟩:=wg Y
 let ⟨h0,b',c',h1,Bh,hlc⟩:=(dY aX st x _ hx<|λkx cy=>iB kx e9)
 rw[anO]at h1
 simp only[Value.slice.injEq,aq,Addr.mk.injEq,and_true,true_and]at h1
 obtain⟨rfl,rfl⟩:=h1
 have lA:=Bg.newsLen
 have oF:=zl.length
 have Bd:=hr.length
 have abM:A≠B:=λe=>w<|e▸aX.dX _ _ I
 have R:∀aG,g.H W.heap.size aG=none:=by
  intro aG;cases hv:g.H W.heap.size aG with
  |none=>rfl
  |some v=>
   have:=C5 W _<|aX.sub _ _ _ hv
   simp at this
 have hbW:b<W.heap.size:=(fY.1 hh).1
 have M:(r (f*sz) vs).length=f*sz:=cd
 have hrp:a6 g (r (f*sz) q5++cs) (r (f*sz) vs++us):=(hr.take _).append zl
 have O:∀j∈b6 (r (f*sz) q5++cs),q j:=by
  intro j D;rcases FR _ _ j D with h|h
  .exact aX.ak _ _ I j<|FM _ _ _ h
  .exact tL j h
 have JN:∃(v':aT)(S:cJ)(b' c':G)(p:E aT),(zf #[t1,t2] aG.type #[a.eval x,a.eval cc]).run P W= .ok v' S/\v'= .slice (ad ⟨b',0,none⟩) (f+m) c'/\f+m<=c'/\
   S.heap[b']? =ad (.cells (r (f*sz) vs++us++p).toArray bt (0,0))/\(r (f*sz) vs++us++p).length=c'*sz/\W.heap.size<=S.heap.size/\(∀k,k<W.heap.size->b≠k->S.heap[k]? =W.heap[k]?)/\S.os=W.os/\S.tape=W.tape/\S.output=W.output/\Sub g.H S/\(∀aG,g.H b' aG=none)/\F.N b'/\(W.heap.size<=b'\/b'=b):=by
  by_cases T:f+m<=c
  .have oM:(f+m)*sz<=c*sz:=dS _ T;rw[gY]at oM;have JF:Z (vs++rest)=Z vs+Z rest:=iV;have X:=abJ (P:=P) (ty:=aG.type) (W:=W) hT.u1 xG (b:=b) (off:=0) (sLen:=f) (sCap:=c) NZ hh zm T (by rw[xQ];omega);rw[xQ,fD]at X;have tE:cR (vs++rest) us (f*sz)=r (f*sz) vs++us++az (f*sz+Z us) (vs++rest):=by unfold cR;rw[y6 Y]
   refine⟨_,_,b,c,az (f*sz+Z us)<|vs++rest,by rw[Bh];exact X,J,T,by rw[FQ hbW,tE],?_,A3,λk _ U=>y4 U,J,J,J,A2 aX.sub hz,hz,hN,.inr J⟩;rw[<-tE,y5 _ _ _ Y];exact anP
  .have Ui:(Bf inf.size f<|.slice (ad ⟨b,0,none⟩) f c).run P W.drew= .ok (r (f*sz) vs).toArray W.drew:=by
    rw[xQ];refine run_firstCells_some W.drew sz f ⟨b,0,none⟩ f c _ M ?_;intro j u D;let ⟨FD,xy⟩:=qQ.1 D;simp only[tD]at xy;have JK:j<Z vs:=by rw[M]at FD;omega
    simp only[ns,fD];have JG:W.drew.heap[b]? =ad (.cells (vs++rest).toArray bt (0,0)):=hh;rw[xD JG j cd,sa JK,xy]
   have JJ:c<f+m:=Y;have xF:=grownCap_ge W (f+m) c bt;refine⟨_,_,W.heap.size,grownCap W (f+m) c bt,(Uj z.cells<|grownCap W (f+m) c bt-(f+m)).toList,by rw[Bh];exact (run_append_grow_src (P:=P) W t1 t2 aG.type bt inf z hT.u1 xG zh (ad ⟨b,0,none⟩) f c _ Ui (a.eval cc) m us NZ JJ Y (growslice_fits_wide JJ<|by rw[Gn];exact anN)),J,xF,?_,?_,au,λk U _=>heap_alloc_old W.drew _ U,J,J,J,C4 aX.sub _,R,.inl aX.below.size,.inl (aL _)⟩
   .rw[show W.heap.size=W.drew.heap.size from J,heap_alloc_new];congr 2;apply FP;simp
   .simp only[iV,M,lA,JE,size_zeroCells,v8,<-gY];congr 1;omega
 let ⟨v',S,bn,cn,p,X,wc,Uk,hhn,htn,anW,V,N1,ho2,ho3,anZ,hHn,hNn,an2⟩:=JN
 unfold wpOp
 simp only[ho,iv,hg,cz]
 refine .inl ?_
 unfold p'
 rw[NX b9 X]
 simp only[ph,hd]
 have Dm:d<a.tmps.size:=nX
 let g':Gh:=⟨g.H,λA=>if A=B then .slice (ad ⟨bn,0,none⟩) 0 cn else g.γ A⟩
 have N2:g'.γ B= .slice (ad ⟨bn,0,none⟩) 0 cn:=by simp[g']
 have Gq:gN q g g':=⟨cL.refl _,λA aY=>by
  have:A≠B:=λe=>w<|e▸aY
  simp[g',this]⟩
 refine hK g' _ _<|aX.step (chg:=λj=>j=A) (g':=g') ⟨Gq,λ_ _ _=>rfl,anZ,anW,?_,N1,ho2,ho3⟩ _ B w pj aX.defers (λt ht=>JM ht) ?_ ?_ ?_ ?_ ?_
 .intro k U eZ;exact V k U (λe=>eZ A J<|by rw[hγ,e])
 .intro j D;subst D;exact⟨by simp[aD,Ne.symm abM],_,I⟩
 .intro t u ht;simp only[aD]at ht;split at ht
  next e=>simp only[Key.s.injEq]at e;simp only[aq,Info.v.injEq]at ht;subst e;subst ht;refine⟨J,bn,cn,N2,?_,Uk⟩;simp[iK,Dm,wc]
  .simp at ht
 .intro j bk D;simp only[aD,reduceCtorEq,b8]at D;split at D
  .rename_i e';simp only[Key.m.injEq]at e';subst e';simp only[aq,Info.b.injEq]at D;subst D;refine⟨⟨bn,_,p,by rw[N2];rfl,hhn,a6.mono Gq O hrp,hNn,hHn,λ_=>⟨cn,N2,htn⟩⟩,.inr ⟨J,λk U=>?_⟩⟩;rw[N2]at U;simp only[cO,aq]at U;subst U;rcases an2 with h|h
   .exact .inl h
   .refine .inr ⟨A,_,I,?_,by rw[hγ,h]⟩;simp[aD,Ne.symm abM]
  .split at D<;>simp at D
 .intro k z' l;simp only[aD]at l;split at l
  .simp only[aq]at l;subst l;intro j D;simp[Info.ak,AV.ak,C.ak]at D;exact .inr D
  .split at l
   .simp only[aq]at l;subst l;exact λj D=> .inl<|O j D
   .split at l<;>simp at l
 .intro j z' l;simp only[aD,reduceCtorEq,b8]at l;split at l
  next e'=>simp only[Key.m.injEq]at e';exact .inr e'.symm
  .split at l<;>simp at l
def an3{ops}{i}{aG:a8}{d:G}(ho:ops[i]? =ad aG)(hg:aG.guard=none)(hd:aG.dst=ad d){n}(dG:d<n){x cc}{t1 t2}(b9:aG.op= .call ⟨.builtin .copy,#[x,cc],#[t1,t2]⟩)
 {N}{bt}{sz bytes}(hT:Gt P t1 t2 bt sz bytes) {B l T:G} {abN:aw G} {vy:AV} (hx:N.ev x=ad (.c<|.L B l T abN)) (hy:N.ev cc=ad vy) {Eb:TypeId} {bz:G} {q5:E C} (hl:o B N.mem=ad (.box Eb bz q5)) {m:G} {cs:E C} {is:E G} (hs:we N sz vy=ad (m,cs,is)) (sy:cs.all lO=ae)
  (hle:m<=T) (NY:l+m*sz<=Z q5) (new:G):
  jd P n ops i (cQ N x++cQ N cc++fZ N (B::is)) [(.s d,ad<|.v<|.c<|.I .i64 m),(.m B,ad<|.b<|.box Eb bz<|cR q5 cs l)] new:=by
 intro F lM Q known σ g W a K M aX X hK
 have O:=dY aX N x _ hx<|λR cy=>X R e9
 have S:=zk (st:=N) (ids:=B::is) (σ:=σ)<|λR cy=>X R N0
 let ⟨e2,jN⟩:=hT.u2
 let ⟨inf,z,U,V,Gn,zh,v8⟩:=hT.info
 let ⟨us,D,zl,tL,zm⟩:=Dq (P:=P) aX hs (dY aX N cc _ hy<|λR cy=>X R e9) (λB aY b hb=>S B (ls _ aY) b hb) jN sy
 have p:=S B au _ hl
 let ⟨b,vs,rest,A,hh,hr,hN,hz,wg⟩:=aX.cM B _ p
 have q:∃c,a.eval x= .slice (ad ⟨b,l,none⟩) T c:=by
  cases abN with
  |some c=>
   let ⟨b',h1,h2⟩:=O
   rw[A]at h1
   cases h1
   exact⟨c,h2⟩
  |none=>
   let ⟨h0,b',c,h1,h2,_⟩:=O
   rw[h1]at A
   simp only[cO,aq]at A
   subst A h0
   exact⟨c,h2⟩
 let ⟨c,q⟩:=q
 have lA:=D.newsLen
 have oF:=zl.length
 have Bd:=hr.length
 have r:l+Z us<=Z vs:=Y
 have wh:=A1 (P:=P) b us W (vs++rest) l 0 hh cd zm
 simp only[jZ]at wh
 have tE:cR (vs++rest) us l=cR vs us l++rest:=Np vs rest us _ r
 have jL:(Builtin.copy_ #[t1,t2] aG.type #[a.eval x,a.eval cc]).run P W= .ok (.int .i64 m) (jy W b (cR (vs++rest) us l) Eb):=by rw[q];have Ul:Nat.min m T=m:=uY hle;simp[Builtin.copy_,run_underlying hT.u1,sizeOf,typeInfo,U,D.len,Ul,V,D.cells,wh,goInt,mX,pure]
 have hex:(execOp a.eval aG).run P W= .ok (.value<|.int .i64 m) (jy W b (cR (vs++rest) us l) Eb):=by refine Gk b9<|λcs=>?_;have e:(#[x,cc]:Array fE).map a.eval= #[a.eval x,a.eval cc]:=au;rw[e];simp only[Go.builtin,dH,jL,eo];rfl
 unfold wpOp
 simp only[ho,iv,hg,cz]
 refine .inl ?_
 unfold p'
 rw[hex]
 simp only[ph,hd]
 have Dm:d<a.tmps.size:=nX
 have hb:b<W.heap.size:=(fY.1 hh).1
 refine hK g _ _<|aX.step (chg:=λj=>j=B) (g':=g) ⟨⟨cL.refl _,λ_ _=>rfl⟩,λ_ _ _=>rfl,A2 aX.sub hz,A3,?_,J,J,J⟩ _ new M pj aX.defers (λt w=>JM w) ?_ ?_ ?_ ?_ ?_
 .intro k hk eZ;have:b≠k:=λe=>eZ B J (by rw[A,e])
  exact y4 this
 .intro j H;subst H;exact⟨y7,_,p⟩
 .intro t u w;simp only[aD]at w;split at w
  next e=>simp only[Key.s.injEq]at e;simp only[aq,Info.v.injEq]at w;subst e;subst w;simp[iK,Dm,bh,de]
  .simp at w
 .intro j bk H;simp only[aD,reduceCtorEq,b8]at H;split at H
  next e'=>simp only[Key.m.injEq]at e';subst e';simp only[aq,Info.b.injEq]at H;subst H;refine⟨⟨b,cR vs us l,rest,A,Nq,hr.cR zl _,hN,hz,λh0=>?_⟩,.inl ⟨aX.dX _ _ p,_,p⟩⟩;let ⟨c',e1,e2⟩:=wg h0;refine⟨c',e1,?_⟩;rw[<-tE,y5 _ _ _ cd];exact e2
  .simp at H
 .intro k z' f;simp only[aD]at f;split at f
  .simp only[aq]at f;subst f;intro j H;simp[Info.ak,AV.ak,C.ak]at H
  .split at f
   .simp only[aq]at f;subst f;intro j H;rcases FT _ _ _ j H with h|h
    .exact .inl<|aX.ak _ _ p j h
    .exact .inl<|tL j h
   .simp at f
 .intro j z' f;simp only[aD,reduceCtorEq,b8]at f;split at f
  next e'=>simp only[Key.m.injEq]at e';subst e';exact .inl<|aX.dX _ _ p
  .simp at f
def uZ(a:St):E fE->aw (E<|Bool×E C)
 |[]=>ad []
 |x::xs=>(match a.ev x with
  |some v=>(match sj v,uZ a xs with
   |some s,ad b=>ad<|s::b
   |_,_=>none)
  |none=>none)
def N3{v}{s}(b:sj v=ad s):b6 s.2=v.ak:=by
 cases v with
 |c x=>simp[sj]at b;subst b;simp[b6,AV.ak]
 |a cs=>simp[sj]at b;subst b;rfl
 |t _=>simp[sj]at b
def Um{B:dO}{d:G->Prop}{u:Kn}{g:Gh}{W:cJ}{a:Act}(m:aR B d u g W a)(i:St):∀(xs:E fE)(k:E (Bool×E C)),uZ i xs=ad k->
  (∀f∈xs.flatMap (cQ i),u f.1=ad f.2)->dK g k (xs.map a.eval)/\∀l∈et k,d l
 |[],k,he,_=>by simp only[uZ,aq]at he;subst he;exact⟨J,by simp[et]⟩
 |x::xs,k,he,hr=>by
  simp only[uZ]at he;split at he
  .rename_i v z;split at he
   .rename_i s D A n;simp only[aq]at he;subst he;let ⟨h2,t⟩:=Um m i xs D n (λf cy=>hr f<|by simp only[l6,bl];exact .inr cy);refine⟨⟨_,_,J,T2 A<|dY m i x v z<|λf cy=>hr f e9,h2⟩,?_⟩;intro l b;simp only[et,bl]at b;rcases b with b|b
    .rw[N3 A]at b;exact (tx m i x v z<|λf cy=>hr f e9) l b
    .exact t l b
   .simp at he
  .simp at he
def abO{ops}{i}{aG:a8}{d:G}(ho:ops[i]? =ad aG)(hg:aG.guard=none)(hd:aG.dst=ad d){n}(dG:d<n){f}{first p}(b9:aG.op= .makeFunc (.func f) first p)
 {st}{fs cs}(hf:uZ st first.toList=ad fs) (hc:uZ st p.toList=ad cs) new:
  jd P n ops i ((first.toList++p.toList).flatMap<|cQ st) [(.s d,ad<|.v<|.c<|.X new),(.m new,ad<|.b<|.eB f fs cs)] new:=by
 intro F lM Q D Y g W a K B aX q S
 let ⟨I,r⟩:=Um aX st _ _ hf (λL N=>q L<|by rw[Gu];exact eT _ N)
 let ⟨M,w⟩:=Um aX st _ _ hc (λL N=>q L<|by rw[Gu];exact gO _ N)
 have O:(execOp a.eval aG).run P W= .ok (.value<|.func (.func f) (first.toList.map a.eval).toArray (p.toList.map a.eval).toArray) W:=by rw[execOp,b9];have U:first.map a.eval=(first.toList.map a.eval).toArray:=A6;have V:p.map a.eval=(p.toList.map a.eval).toArray:=A6;simp only[Instr.makeFunc,U,V];rfl
 unfold wpOp
 simp only[ho,iv,hg,cz]
 refine .inl ?_
 unfold p'
 rw[O]
 simp only[ph,hd]
 have E:d<a.tmps.size:=nX
 let v:aT:= .func (.func f) (first.toList.map a.eval).toArray (p.toList.map a.eval).toArray
 let T:Gh:=⟨g.H,λA=>if A=new then v else g.γ A⟩
 have j:T.γ new=v:=by simp[T]
 have z:gN D g T:=⟨cL.refl _,λA x=>by
  have:A≠new:=λe=>B<|e▸x
  simp[T,this]⟩
 refine S T _ _<|aX.step (chg:=λ_=>False) (g':=T) ⟨z,λ_ _ _=>rfl,aX.sub,aL _,λ_ _ _=>rfl,J,J,J⟩ _ new B pj aX.defers (λt l=>JM l) (λ_ h=>h.elim) ?_ ?_ ?_ ?_
 .intro t u l;simp only[aD]at l;split at l
  next e=>simp only[Key.s.injEq]at e;simp only[aq,Info.v.injEq]at l;subst e;subst l;show _=T.γ new;rw[j];simp[iK,E,v]
  .simp at l
 .intro A b l;simp only[aD,reduceCtorEq,b8]at l;split at l
  next e=>simp only[Key.m.injEq]at e;subst e;simp only[aq,Info.b.injEq]at l;subst l;refine⟨⟨_,_,j,dK.mono z r I,dK.mono z w M⟩,.inr ⟨J,λk R=>?_⟩⟩;rw[j]at R;simp[cO,v]at R
  .simp at l
 .intro k y l;simp only[aD]at l;split at l
  .simp only[aq]at l;subst l;intro A x;simp[Info.ak,AV.ak,C.ak]at x;exact .inr x
  .split at l
   .simp only[aq]at l;subst l;intro A x;rcases bl.1 x with h|h
    .exact .inl<|r A h
    .exact .inl<|w A h
   .simp at l
 .intro A y l;simp only[aD,reduceCtorEq,b8]at l;split at l
  next e=>simp only[Key.m.injEq]at e;exact .inr e.symm
  .simp at l
end
def n7(a:E aT):Act:={tmps:=a.toArray,defers:=[]}
structure CX(P:bW)(f:FuncId)(vs:E AV)(fm:E (G×aA))(k:G)(r:AV)(a:E (G×aA))(i:G):Prop where
 call:oI P f=ae
 le:k<=i
 spec:∀(b:dO)(g:Gh)(W:cJ)(d:E aT),b.n=vs.length->d.length=vs.length->aR b (·<k) (St.kn ⟨dT 0 vs,fm,0,[]⟩) g W (n7 d)->
  Calls P f d.toArray W (λe l=>∃v m,e= .returned v/\aR {b with n:=1} (·<i) (St.kn ⟨[(0,r)],a,0,[]⟩) m l (n7 [v]))
def qk(a:E (G×aA)):E (G×aA)->E (Key×aw Info)
 |[]=>[]
 | (id,_)::d=>(.m id,(o id a).map .b)::qk a d
def kX(k:G):E (G×aA)->E (Key×aw Info)
 |[]=>[]
 | (id,b)::a=>if k<=id then(.m id,ad<|.b b)::kX k a else kX k a
def wi{u v:E (Key×aw Info)}{k:Key}:aD (u++v) k=match aD u k with|some x=>ad x|none=>aD v k:=by
 induction u with
 |nil=>rfl
 |cons p u a=>
  let ⟨b,x⟩:=p
  simp[mY,aD]
  split
  .rfl
  .exact a
def Gv(a:E (G×aA))(t:G):∀fm,aD (qk a fm) (.s t)=none
 |[]=>rfl
 | (id,b)::d=>by simp[qk,aD,Gv a t d]
def zn(k:G)(t:G):∀fm,aD (kX k fm) (.s t)=none
 |[]=>rfl
 | (id,b)::a=>by
  simp[kX];split
  .simp[aD,zn k t a]
  .exact zn k t a
def JO(a:E (G×aA))(d:G):∀fm:E (G×aA),aD (qk a fm) (.m d)=if(o d fm).isSome then ad ((o d a).map .b)else none
 |[]=>rfl
 | (id,b)::g=>by
  simp[qk,aD,o];by_cases f:id=d
  .simp[f]
  .simp[f,b8];exact JO a d g
def zo(k a:G):∀fm:E (G×aA),aD (kX k fm) (.m a)=if k<=a then(o a fm).map (λb=>ad<|.b b)else none
 |[]=>by simp[kX,aD,o]
 | (id,b)::g=>by
  simp[kX,o];by_cases f:k<=id
  .simp[f,cz,aD];by_cases d:id=a
   .subst d;simp[f]
   .simp[d,b8];exact zo k a g
  .simp[f,b8];by_cases d:id=a
   .subst d;rw[zo k id g];simp[f]
   .simp[d,b8];exact zo k a g
def zp(k:G)(fm:E (G×aA)):E G->Bool
 |[]=>ae
 |id::a=>(fa k id||(o id fm).isSome)&&zp k fm a
def zq(k:G)(fm:E (G×aA)):E (G×aA)->Bool
 |[]=>ae
 | (id,b)::a=>(fa k id||(o id fm).isSome)&&zp k fm b.ak&&zq k fm a
def Un{k:G}{fm:E (G×aA)}:∀{l:E G},zp k fm l=ae->∀d∈l,k<=d\/∃b,o d fm=ad b
 |[],_,_,a=>by cases a
 |i::m,f,d,a=>by
  simp only[zp,cP,A5]at f;rcases b7.1 a with rfl|a
  .rcases f.1 with g|g
   .exact .inl<|c7 g
   .exact .inr<|JP.1 g
  .exact Un f.2 d a
def Uo{k:G}{fm:E (G×aA)}:∀{l:E (G×aA)},zq k fm l=ae->∀d b,o d l=ad b->(k<=d\/∃b,o d fm=ad b)/\∀g∈b.ak,k<=g\/∃b,o g fm=ad b
 |[],_,_,_,a=>by simp[o]at a
 | (g,x)::n,f,d,b,a=>by
  simp only[zq,cP,A5]at f;simp only[o]at a;split at a
  .rename_i m;subst m;cases a;refine⟨?_,Un f.1.2⟩;rcases f.1.1 with i|i
   .exact .inl<|c7 i
   .exact .inr<|JP.1 i
  .exact Uo f.2 d b a
def gW.Bi{N B:G->Prop}{g u}{W}{s}{b}(i:gW N g W s b)(t:∀k,cO (g.γ s)=ad k->B k)(hγ:u.γ s=g.γ s)(hH:u.H=g.H)(l:gN (λp=>p∈b.ak) g u):gW B u W s b:=by
 cases b with
 |box E sz cs=>
  let ⟨b,vs,rest,e,a,hr,v,hz,hc⟩:=i
  exact⟨b,vs,rest,sA,a,a6.mono l (λp d=>d) hr,t b e,JQ,by rw[hγ];exact hc⟩
 |vec E T xs=>
  rcases i with⟨e,C⟩|⟨b,x,vs,e,a,z,A,D,K,v,hz⟩
  .exact .inl ⟨sA,C⟩
  .exact .inr ⟨b,x,vs,sA,a,z,A,D,by rw[hH];exact K,t b vO,JQ⟩
 |eB f first caps=>
  let ⟨us,ws,e,z,A⟩:=i
  exact⟨us,ws,sA,dK.mono l (λp d=>eT _ d) z,dK.mono l (λp d=>gO _ d) A⟩
 |fz E cs=>
  let ⟨b,vs,rest,e,a,hr,v,hz⟩:=i
  exact⟨b,vs,rest,sA,a,a6.mono l (λp d=>d) hr,t b e,JQ⟩
 |mp Q X xs=>
  let ⟨r,es,e,a,hr,v,hz⟩:=i
  exact⟨r,es,sA,a,jr.mono l (λp d=>d) hr,t r vO,JQ⟩
 |it m n seen=>
  let ⟨r,b,e,P,a,v,hz⟩:=i
  exact⟨r,b,sA,by rw[l.γ m (by simp[aA.ak])];exact P,a,t r vO,JQ⟩
def gW.wj{known:G->Prop}{N:G->Prop}{g B}{W W'}{t}{b}(x:gW N g W t b)(u:gN known g B)(D:known t)(z:∀A∈b.ak,known A)
  (l:∀k,cO (g.γ t)=ad k->W'.heap[k]? =W.heap[k]? /\∀a,B.H k a=g.H k a):gW N B W' t b:=by
 have hγ:=u.γ t D
 cases b with
 |box E sz cs=>
  let ⟨b,vs,rest,e,d,hr,p,s,hc⟩:=x
  exact⟨b,vs,rest,sA,by rw[(l b e).1];exact d,a6.mono u z hr,p,λa=>by rw[(l b e).2];exact s a,by rw[hγ];exact hc⟩
 |vec E T xs=>
  rcases x with⟨e,C⟩|⟨b,K,vs,e,C,d,P,X,c,p,s⟩
  .exact .inl ⟨sA,C⟩
  .have v:cO (g.γ t)=ad b:=by rw[e];rfl
   exact .inr ⟨b,K,vs,sA,by rw[(l b v).1];exact C,d,P,X,λi q=>dq.mono u.H T _ _<|c i q,p,λa=>by rw[(l b v).2];exact s a⟩
 |eB f first caps=>
  let ⟨us,ws,e,d,P⟩:=x
  exact⟨us,ws,sA,dK.mono u (λA Q=>z A<|eT _ Q) d,dK.mono u (λA Q=>z A<|gO _ Q) P⟩
 |fz E cs=>
  let ⟨b,vs,rest,e,d,hr,p,s⟩:=x
  exact⟨b,vs,rest,sA,by rw[(l b e).1];exact d,a6.mono u z hr,p,λa=>by rw[(l b e).2];exact s a⟩
 |mp y F xs=>
  let ⟨r,es,e,d,hr,p,s⟩:=x
  have v:cO (g.γ t)=ad r:=vO
  exact⟨r,es,sA,by rw[(l r v).1];exact d,jr.mono u z hr,p,λa=>by rw[(l r v).2];exact s a⟩
 |it m n seen=>
  let ⟨r,b,e,w,d,p,s⟩:=x
  have v:cO (g.γ t)=ad r:=vO
  exact⟨r,b,sA,by rw[u.γ m (z m<|by simp[aA.ak])];exact w,by rw[(l r v).1];exact d,p,λa=>by rw[(l r v).2];exact s a⟩
section
variable{P:bW}{tt:TT}
def abP{k:St}{s:dO}{d:G->Prop}{n:Kn}{g:Gh}{W:cJ}{a:Act}(p:aR s d n g W a):∀(xs:E fE)(vs:E AV),kF k xs=ad vs->(∀f∈xs.flatMap (cQ k),n f.1=ad f.2)->∀i∈cX vs,d i
 |[],vs,he,_,i,b=>by simp only[kF,aq]at he;subst he;cases b
 |x::xs,vs,he,hr,i,b=>by
  simp only[kF]at he;split at he
  .rename_i v l t m;simp only[aq]at he;subst he;simp only[cX,bl]at b;rcases b with b|b
   .exact tx p k x v t (λf cy=>hr f e9) i b
   .exact abP p xs l m (λf cy=>hr f<|by simp only[l6,bl];exact .inr cy) i b
  .simp at he
def Up{f}{vs}{fm T}{k k'}{a7}(hf:CX P f vs fm k a7 T k')(Uq:∀l∈cX vs,l<k)(oN:∀l b,o l fm=ad b->l<k/\∀z∈b.ak,z<k)(JR:∀l∈a7.ak,k<=l\/∃b,o l fm=ad b)
  (wm:∀l b,o l T=ad b->o l fm=ad b\/∀z∈b.ak,k<=z\/∃b,o z fm=ad b)
 {Fc}{Q:G->Prop} {σ}{g}{W}{a}(p:aR Fc Q σ g W a) (IW:∀l,(k<=l/\l<k')->¬Q l) {us}(N5:fV g vs us) (hkv:∀l∈cX vs,Q l)
  (iB:∀l b,o l fm=ad b->σ (.m l)=ad (.b b)) {d}(hd:d<a.tmps.size):
  Calls P f us.toArray W (λcH W'=>∃v g',cH= .returned v/\aR Fc (λl=>Q l\/(k<=l/\l<k')) (bw σ<|(.s d,ad<|.v a7)::(qk T fm++kX k T)) g' W' (a.put (ad d) v)):=by
 have lA:=xL N5
 let F:dO:={w0:=W,H0:=g.H,n:=Z vs,own:=λb=>∃l bb,o l fm=ad bb/\cO (g.γ l)=ad b,k0:=k,γ0:=g.γ}
 have hN:∀b,F.N b->b<W.heap.size->Fc.N b:=by
  intro b C U;rcases C with C|⟨l,bb,K,h2⟩
  .exact aF C (Y:¬W.heap.size<=b)
  .exact((p.cM l bb<|iB l bb K).block h2).1
 have Ur:∀b,F.N b->Fc.N b:=by
  intro b C;rcases C with C|⟨l,bb,K,h2⟩
  .exact .inl<|br p.below.size C
  .exact((p.cM l bb<|iB l bb K).block h2).1
 have h0:aR F (·<k) (St.kn ⟨dT 0 vs,fm,0,[]⟩) g W (n7 us):=by
  refine⟨by simp[n7,F,lA],J,?_,?_,?_,?_,?_,p.sub,⟨J,J,J,aL _,λ_ _ _=>rfl⟩,cL.refl _,λ_ _ _ _=>rfl,λl A=>⟨A,J⟩⟩
  .intro t v ht;simp only[St.kn,bY]at ht;let ⟨x,hx,he⟩:=ht;cases he;let ⟨_,u,hu,hr,_⟩:=me vs us 0 N5 t v hx;have zr:us[t]? =ad u:=v3;simp only[n7,l7,vR,zr,tK];exact hr
  .intro l b C;simp only[St.kn,bY]at C;let ⟨x,hx,he⟩:=C;cases he;exact(p.cM l b<|iB l b hx).Bi (λB V=> .inr ⟨l,b,hx,V⟩) J J ⟨cL.refl _,λ_ _=>rfl⟩
  .intro l qi b b' B C nq K h2;simp only[St.kn,bY]at C nq;let ⟨x,hx,he⟩:=C;let ⟨x',Us,JS⟩:=nq;cases he;cases JS;exact p.inj l qi b b' B (iB l b hx) (iB qi b' Us) K h2
  .intro key x hx l A;cases key with
   |s t=>
    simp only[St.kn,bY]at hx
    let ⟨cc,hy,he⟩:=hx
    subst he
    let ⟨_,_,_,_,h6⟩:=me vs us 0 N5 t cc hy
    exact Uq l<|h6 l A
   |m z=>
    simp only[St.kn,bY]at hx
    let ⟨cc,hy,he⟩:=hx
    subst he
    exact(oN z cc hy).2 l A
  .intro l x hx;simp only[St.kn,bY]at hx;let ⟨cc,hy,he⟩:=hx;exact(oN l cc hy).1
 refine(hf.spec F g W us J lA h0).mono ?_
 rintro cH W' ⟨v,g',rfl,K⟩
 refine⟨v,⟨g'.H,λl=>if k<=l/\l<k' then g'.γ l else g.γ l⟩,J,?_⟩
 generalize Ut:(⟨g'.H,λl=>if k<=l/\l<k' then g'.γ l else g.γ l⟩:Gh)=g2
 have R:g2.H=g'.H:=by rw[<-Ut]
 have abR:∀l,g2.γ l=if k<=l/\l<k' then g'.γ l else g.γ l:=by rw[<-Ut];intro l;rfl
 have w:∀l,l<k'->g2.γ l=g'.γ l:=by
  intro l A;rw[abR];split
  .rfl
  next hn=>exact(K.fT l (Y:l<k)).2.symm
 have S:gN (·<k') g' g2:=⟨by rw[R];exact cL.refl _,λl A=>w l A⟩
 have D:gN Q g g2:=⟨by rw[R];exact K.le,λl A=>by rw[abR,y];intro hc;exact IW l hc A⟩
 have abS:∀l b,o l fm=ad b->Q l:=λl b C=>p.dX _ _<|iB l b C
 have N6:∀l,(k<=l\/∃b,o l fm=ad b)->l<k'->Q l\/(k<=l/\l<k'):=by
  intro l h h2;rcases h with h|⟨b,C⟩
  .exact .inr ⟨h,h2⟩
  .exact .inl<|abS l b C
 have abT:∀l∈a7.ak,l<k':=λl A=>K.ak (.s 0) (.v a7) (by simp[St.kn,o]) l A
 have c:∀B,B<W.heap.size->¬F.own B->W'.heap[B]? =W.heap[B]? /\∀aG,g'.H B aG=g.H B aG:=λB L q=>⟨K.below.block B L q,λaG=>K.fresh B aG L q⟩
 have Uu:∀z,aD ((.s d,ad<|.v a7)::(qk T fm++kX k T)) (.m z)=if(o z fm).isSome then ad ((o z T).map .b)else if k<=z then(o z T).map (λb=>ad<|.b b)else none:=by
  intro z;simp only[aD,reduceCtorEq,b8,wi,JO,zo];by_cases h:(o z fm).isSome=ae
  .simp[h]
  .simp[h]
 have E:∀z b,bw σ ((.s d,ad<|.v a7)::(qk T fm++kX k T)) (.m z)=ad (.b b)->(o z T=ad b/\z<k')\/(o z fm=none/\σ (.m z)=ad (.b b)/\Q z):=by
  intro z b C;simp only[bw,Uu]at C;by_cases h:(o z fm).isSome=ae
  .simp only[h,cz,bY]at C;let ⟨x,hx,he⟩:=C;cases he;exact .inl ⟨hx,K.dX z (.b b)<|by simp[St.kn,hx]⟩
  .have q:o z fm=none:=by simpa using h
   simp only[h,b8,jx]at C;by_cases L:k<=z
   .simp only[L,cz]at C;cases hx:o z T with
    |none=>
     rw[hx]at C
     simp only[Option.map_none]at C
     exact .inr ⟨q,C,p.dX _ _ C⟩
    |some x=>
     rw[hx]at C
     simp only[xK,aq,Info.b.injEq]at C
     subst C
     exact .inl ⟨J,K.dX z (.b x)<|by simp[St.kn,hx]⟩
   .simp only[L,b8]at C;exact .inr ⟨q,C,p.dX _ _ C⟩
 have X:∀z b B,o z fm=none->σ (.m z)=ad (.b b)->cO (g.γ z)=ad B->B<W.heap.size/\¬F.own B:=by intro z b B h2 I h4;refine⟨((p.cM z b I).block h4).2,?_⟩;rintro⟨l,bb,h5,h6⟩;have:=p.inj z l b bb B I (iB l bb h5) h4 h6;subst this;rw[h2]at h5;cases h5
 refine⟨by simp[iK,p.size],p.defers,?_,?_,?_,?_,?_,by rw[R];exact K.sub,?_,by rw[R];exact p.le.trans K.le,?_,?_⟩
 .intro t u ht;simp only[bw,aD,wi,Gv,zn]at ht;by_cases cH:d=t
  .subst cH;simp only[cz,aq,Info.v.injEq]at ht;subst ht;have hr:=K.dW 0 a7 (by simp[St.kn,o]);have hv:(a.put (ad d) v).tmps.getD d undef=v:=by simp[iK,hd]
   rw[hv];exact bh.mono S abT (by simpa[n7]using hr)
  .have e':¬(Key.s d=Key.s t):=λh=>cH fg
   simp only[e',b8]at ht;have hv:(a.put (ad d) v).tmps.getD t undef=a.tmps.getD t undef:=by simp[iK,l0 cH]
   rw[hv];exact bh.mono D (λl A=>p.ak _ _ ht l A)<|p.dW t u ht
 .intro z b C;rcases E z b C with⟨h2,I⟩|⟨h2,I,h4⟩
  .have Bj:=K.cM z b JT;exact Bj.Bi (λB V=>Ur B (Bj.block V).1) (w z I) R ⟨S.H,λi hi=>S.γ i<|K.ak (.m z) (.b b) JT i hi⟩
  .refine(p.cM z b I).wj D h4 (λi hi=>p.ak _ _ I i hi)<|λB V=>?_;let ⟨h5,h6⟩:=X z b B h2 I V;rw[R];exact c B h5 h6
 .intro z j' b b' B C nq M O;rcases E z b C with⟨h2,I⟩|⟨h2,I,h4⟩<;>rcases E j' b' nq with⟨Gw,Dr⟩|⟨Gw,Dr,h4'⟩
  .rw[w z I]at M;rw[w j' Dr]at O;exact K.inj z j' b b' B JT (by simp[St.kn,Gw]) M O
  .exfalso;rw[w z I]at M;rw[D.γ j' h4']at O;let ⟨h5,h6⟩:=X j' b' B Gw Dr O;rcases((K.cM z b JT).block M).1 with h7|h7
   .exact aF h7 (Y:¬W.heap.size<=B)
   .exact h6 h7
  .exfalso;rw[w j' Dr]at O;rw[D.γ z h4]at M;let ⟨h5,h6⟩:=X z b B h2 I M;rcases((K.cM j' b'<|by simp[St.kn,Gw]).block O).1 with h7|h7
   .exact aF h7 (Y:¬W.heap.size<=B)
   .exact h6 h7
  .rw[D.γ z h4]at M;rw[D.γ j' h4']at O;exact p.inj z j' b b' B I Dr M O
 .intro key x hx l A;cases key with
  |s t=>
   simp only[bw,aD,wi,Gv,zn]at hx
   by_cases cH:d=t
   .subst cH;simp only[cz,aq]at hx;subst hx;exact N6 l (JR l A)<|abT l A
   .have e':¬(Key.s d=Key.s t):=λh=>cH fg
    simp only[e',b8]at hx;exact .inl<|p.ak _ _ hx l A
  |m z=>
   cases x with
   |v u=>
    simp only[bw,Uu]at hx
    by_cases h:(o z fm).isSome=ae
    .simp only[h,cz,bY]at hx;let ⟨_,_,he⟩:=hx;cases he
    .simp only[h,b8,jx]at hx;by_cases L:k<=z
     .simp only[L,cz]at hx;cases hy:o z T with
      |none=>rw[hy]at hx;exact .inl<|p.ak (.m z) (.v u) Gx l A
      |some cc=>rw[hy]at hx;simp at hx
     .simp only[L,b8]at hx;exact .inl<|p.ak _ _ hx l A
   |b b=>
    rcases E z b hx with⟨h2,I⟩|⟨h2,I,h4⟩
    .rcases wm z b h2 with h7|h7
     .exact .inl<|p.ak _ _ (iB z b h7) l A
     .exact N6 l (h7 l A)<|K.ak (.m z) (.b b) JT l A
    .exact .inl<|p.ak _ _ I l A
 .intro z x hx;simp only[bw,Uu]at hx;by_cases h:(o z fm).isSome=ae
  .let ⟨b,C⟩:=JP.1 h;exact .inl<|abS z b C
  .simp only[h,b8,jx]at hx;by_cases L:k<=z
   .simp only[L,cz]at hx;cases hy:o z T with
    |none=>rw[hy]at hx;exact .inl<|p.dX _ _ Gx
    |some cc=>exact .inr ⟨L,K.dX z (.b cc)<|by simp[St.kn,hy]⟩
   .simp only[L,b8]at hx;exact .inl<|p.dX _ _ hx
 .refine⟨K.below.os.trans p.below.os,K.below.tape.trans p.below.tape,K.below.output.trans p.below.output,br p.below.size K.below.size,λB L q=>?_⟩;have U:B<W.heap.size:=gK L p.below.size;rw[<-p.below.block B L q];refine(c B U<|λho=>?_).1;rcases hN B (.inr ho) U with h2|h2
  .omega
  .exact q h2
 .intro B aG L q;have U:B<W.heap.size:=gK L p.below.size;rw[R,(c B U<|λho=>?_).2 aG]
  .exact p.fresh B aG L q
  .rcases hN B (.inr ho) U with h2|h2
   .omega
   .exact q h2
 .intro l A;let ⟨h2,I⟩:=p.fT l A;exact⟨.inl h2,by rw[D.γ l h2];exact I⟩
def an4{f}{vs}{fm n}{k u}{x}(hf:CX P f vs fm k x n u)(z:vZ k (cX vs)=ae)(A:tI k fm=ae)(B:zp k fm x.ak=ae)(D:zq k fm n=ae)
 {Fc}{i:G->Prop} {H}{g}{W}{a}(p:aR Fc i H g W a) (t:∀l,(k<=l/\l<u)->¬i l) {us}(N:fV g vs us) (Q:∀l∈cX vs,i l)
  (T:∀l b,o l fm=ad b->H (.m l)=ad (.b b)) {d}(hd:d<a.tmps.size):
  Calls P f us.toArray W (λcH W'=>∃v g',cH= .returned v/\aR Fc (λl=>i l\/(k<=l/\l<u)) (bw H<|(.s d,ad<|.v x)::(qk n fm++kX k n)) g' W' (a.put (ad d) v)):=
 Up hf (ND z) (λl b h=>F' A l b h) (Un B) (λl b h=> .inr (Uo D l b h).2) p t N Q T hd
end
def JU:Bool×E C->aw AV
 | (ae,cs)=>ad<|.a cs
 | (ah,[b])=>ad<|.c b
 |_=>none
def tM:E (Bool×E C)->aw (E AV)
 |[]=>ad []
 |s::a=>(match JU s,tM a with
  |some v,ad vs=>ad<|v::vs
  |_,_=>none)
def wo(a:St)(b:fE)(args:E fE):aw (FuncId×E AV×E G):=match kF a args with
 |some vs=>(match a.ev b with
  |some (.c<|.V<|.func (.func f) ⟨[]⟩ ⟨[]⟩)=>ad (f,vs,[])
  |some (.c<|.X id)=>(match o id a.mem with
   |some (.eB f first caps)=>(match tM first,tM caps with
    |some us,ad ws=>ad (f,us++(vs++ws),[id])
    |_,_=>none)
   |_=>none)
  |_=>none)
 |none=>none
def JV{g:Gh}:∀{k:E (Bool×E C)}{vs:E AV}{f:E aT},tM k=ad vs->dK g k f->fV g vs f
 |[],vs,f,a,hr=>by simp[tM]at a;subst a;exact hr
 |s::p,vs,f,a,hr=>by
  simp[tM]at a;split at a
  .rename_i v l b m;simp at a;subst a;obtain⟨u,i,rfl,d,n⟩:=hr;refine⟨u,i,J,?_,JV m n⟩;match s,b,d with
   | (ae,cs),b,d=>simp[JU]at b;subst b;exact d
   | (ah,[c]),b,d=>simp[JU]at b;subst b;exact d
  .simp at a
def Ds:∀{g:E (Bool×E C)}{vs:E AV},tM g=ad vs->∀f∈cX vs,f∈et g
 |[],vs,b,f,a=>by simp[tM]at b;subst b;cases a
 |s::l,vs,b,f,a=>by
  simp[tM]at b;split at b
  .rename_i v i d k;simp at b;subst b;simp[cX]at a;simp[et];rcases a with a|a
   .left;match s,d with
    | (ae,cs),d=>simp[JU]at d;subst d;exact a
    | (ah,[m]),d=>simp[JU]at d;subst d;simpa[b6,AV.ak]using a
   .exact .inr<|Ds k f a
  .simp at b
def fV.append{g:Gh}:∀{xs b:E AV}{d f:E aT},fV g xs d->fV g b f->fV g (xs++b) (d++f)
 |[],_,_,_,a,h2=>by simp[fV]at a;subst a;exact h2
 |x::xs,_,_,_,a,h2=>by obtain⟨u,i,rfl,k,l⟩:=a;exact⟨u,i++_,J,k,fV.append l h2⟩
def N7 xs a:cX (xs++a)=cX xs++cX a:=by
 induction xs with
 |nil=>rfl
 |cons x xs b=>simp[cX,b]
section
variable{P:bW}{tt:TT}
def N8{f}{g b}{W}(a:oI P f=ae):(invoke (.fn (.func f) b) g).run P W= .ok (.enter f<|g++b) W:=by
 unfold oI at a;cases d:P.funcs[f]? with
 |none=>rw[d]at a;simp at a
 |some fn=>
  rw[d]at a
  simp[bne_iff_ne,ne_eq]at a
  have i:fn.body≠none:=by intro k;rw[k]at a;simp at a
  simp[invoke,callFunc,d,a.1,i]
def abV{hZ}{k:G->Prop}{N}{g}{W}{a}(b:aR hZ k N g W a){n}{aG}{s}{args}{Q}(x:aG.op= .call ⟨.value s,args,Q⟩){f}{vs}{z}(d:wo n s args.toList=ad (f,vs,z))(A:oI P f=ae)
  (l:∀i∈cQ n s++args.toList.flatMap (cQ n)++fZ n z,N i.1=ad i.2):∃T:E aT,(execOp a.eval aG).run P W= .ok (.enter f T.toArray) W/\fV g vs T/\∀v∈cX vs,k v:=by
 unfold wo at d
 split at d
 .rename_i w B;have h:=Db b n _ _ B (λi cy=>l i<|by simp only[bl];exact .inl<|.inr cy);have C:=abP b _ _ B (λi cy=>l i<|by simp only[bl];exact .inl<|.inr cy);have m:args.map a.eval=(args.toList.map a.eval).toArray:=A6;split at d
  next q t=>simp only[aq,bM]at d;obtain⟨rfl,rfl,rfl⟩:=d;have K:a.eval s= .func (.func q) #[] #[]:=dY b n s _ t (λi cy=>l i<|by simp only[bl];exact .inl<|.inl cy);refine⟨args.toList.map a.eval,?_,h,C⟩;rw[execOp,x];simp only[resolve,K,zs,pure_bind,N8 A,m];simp
  .rename_i v t;split at d
   .rename_i q first r y
    split at d
    .rename_i T L D H;simp only[aq,bM]at d;obtain⟨rfl,rfl,rfl⟩:=d;have K:a.eval s=g.γ v:=dY b n s _ t (λi cy=>l i<|by simp only[bl];exact .inl<|.inl cy);have u:=zk (st:=n) (ids:=[v]) (σ:=N) (λi cy=>l i N0) v au _ y;let ⟨I,J,X,c,e⟩:=b.cM v _ u;refine⟨I++(args.toList.map a.eval++J),?_,(JV D c).append<|h.append<|JV H e,?_⟩
     .rw[execOp,x];simp only[resolve,K,X,zs,pure_bind,N8 A,m];simp
     .intro j p;rw[N7,N7,bl,bl]at p;rcases p with p|p|p
      .exact b.ak _ _ u j<|eT _<|Ds D j p
      .exact C j p
      .exact b.ak _ _ u j<|gO _<|Ds H j p
    .simp at d
   .simp at d
  .simp at d
 .simp at d
def Uv{A}{i}{aG:a8}{d:G}(ho:A[i]? =ad aG)(hg:aG.guard=none)(hd:aG.dst=ad d){n}(dG:d<n){cf}{args}{kH}(b9:aG.op= .call ⟨.value cf,args,kH⟩)
 {u}{f}{vs:E AV} {B:E G} (ht:wo u cf args.toList=ad (f,vs,B)) {fm t:E (G×aA)} {k k':G} {a7:AV} (hf:CX P f vs fm k a7 t k') (Uq:vZ k (cX vs)=ae) (oN:tI k fm=ae) (JR:zp k fm a7.ak=ae) (wm:zq k fm t=ae)
  (JW:∀m b,o m fm=ad b->o m u.mem=ad b):
  uL P n A i (cQ u cf++args.toList.flatMap (cQ u)++fZ u B++fZ u (fm.map (·.1))) ((.s d,ad<|.v a7)::(qk t fm++kX k t)) (λm=>k<=m/\m<k'):=by
 intro F lM Q X I g W a K C aX D J
 let ⟨us,hex,H,c⟩:=abV aX b9 ht hf.call<|λq z=>D q<|eT _ z
 have w:∀{l:E (G×aA)}{m:G}{b:aA},o m l=ad b->m∈l.map (·.1):=by
  intro l;induction l with
  |nil=>intro m b h;simp[o]at h
  |cons p l L=>
   let ⟨j,x⟩:=p
   intro m b h
   simp[o]at h
   split at h
   next e=>simp[e]
   .exact ls _<|L h
 have T:d<a.tmps.size:=nX
 unfold wpOp
 simp[ho,iv,hg,cz]
 refine .inl ?_
 unfold p'
 rw[hex]
 simp[ph,hd]
 refine (an4 hf Uq oN JR wm aX C H c (λm b y=>(zk (st:=u) (ids:=fm.map (·.1)) (σ:=I)<|λq z=>D q<|gO _ z) m (w y) b<|JW m b y) T).mono ?_
 rintro e O ⟨v,R,rfl,S⟩
 exact J R O _ S
def an5{f}{vs}{a7}(p:w P f vs a7)(hm:cX vs=[]) fm k:CX P f vs fm k a7 fm k:=by
 refine⟨p.call,aL _,?_⟩;intro F g W d hn V a;have I:fV g vs d:=by
  have D:∀(vs:E AV)(d:E aT)(i:G)(all:E aT),Z d=Z vs->(∀j,j<Z d->all[i+j]? =d[j]?)->(∀t v,o t (dT i vs)=ad v->bh g v (all.toArray.getD t undef))->fV g vs d:=by
   intro vs;induction vs with
   |nil=>intro d i all hl _ _;exact gx vU
   |cons x vs ih=>
    intro d i all hl B S
    cases d with
    |nil=>simp at hl
    |cons u d=>
     refine⟨u,d,J,?_,ih d (i+1) all vU ?_ ?_⟩
     .have h1:=S i x (by simp[dT,o]);have U:=B 0 au;simp only[jZ,oG]at U;simpa[U]using h1
     .intro j hj;have:=B (j+1) qh;rw[(Y:i+1+j=i+(j+1))];simpa using this
     .intro t v K;refine S t v ?_;have eZ:∀(l:E AV)(L:G),i<L->∀v,o i (dT L l)=ad v->False:=by
       intro l;induction l with
       |nil=>intro L _ v p;simp[dT,o]at p
       |cons y l ihl=>
        intro L N v p
        simp only[dT,o]at p
        split at p
        .omega
        .exact ihl (L+1) Y v p
      simp only[dT,o];split
      next e=>subst e;exact(eZ vs (i+1) Y v K).elim
      .exact K
  exact D vs d 0 d V (λj hj=>au) (λt v K=>a.dW t v<|by simp[St.kn,K])
 refine(p.spec g.H W d a.sub<|I.jh hm).mono ?_;rintro e W' ⟨v,H',rfl,S,hle,M,O,n⟩;refine⟨v,⟨H',g.γ⟩,J,⟨J,a.defers,?_,?_,?_,?_,?_,O,⟨n.os.trans a.below.os,n.tape.trans a.below.tape,n.output.trans a.below.output,br a.below.size n.size,λT hk X=>by rw[n.block T (gK hk a.below.size)];exact a.below.block T hk X⟩,a.le.trans hle,?_,a.fT⟩⟩
 .intro t u K;simp only[St.kn,o,bY]at K;let ⟨x,A,he⟩:=K;cases he;split at A
  next e=>subst e;cases A;have:=S.jh p.jh (cL.refl _) g.γ;simpa[n7]using this
  .cases A
 .intro z b c;have Q:St.kn ⟨dT 0 vs,fm,0,[]⟩ (.m z)=ad (.b b):=c;have C:=a.cM z b Q;refine C.wj (known:=(·<k)) ⟨hle,λ_ _=>rfl⟩ (a.dX z _ Q) (λj hj=>a.ak _ _ Q j hj)<|λT qj=>?_;have N:=(C.block qj).2;exact⟨n.block T N,λq=>M T q N⟩
 .intro z qi b b' T c nq h1 U;exact a.inj z qi b b' T c nq h1 U
 .intro D x A z R;cases D with
  |m j=>exact a.ak (.m j) x A z R
  |s t=>
   simp only[St.kn,o,bY]at A
   let ⟨y,hy,he⟩:=A
   subst he
   split at hy
   .cases hy;have:z∈a7.ak:=R;rw[p.jh]at this;cases this
   .cases hy
 .intro z x A;exact a.dX z x A
 .intro b q c X;show H' b q=F.H0 b q;rw[M b q (gK c a.below.size)];exact a.fresh b q c X
end
def jt{a:Type}(t:G)(v:a):E (G×a)->E (G×a)
 |[]=>[(t,v)]
 | (k,x)::b=>if k=t then(t,v)::b else(k,x)::jt t v b
def qm{d:Type}(t a:G)(v:d):∀l:E (G×d),o a (jt t v l)=if t=a then ad v else o a l
 |[]=>by simp[jt,o]
 | (k,x)::f=>by
  simp[jt];split
  next b=>subst b;simp[o];split<;>rfl
  .rename_i b;simp[o];split
   next g=>subst g;rw[y (λi=>b i.symm)]
   .exact qm t a v f
def iy(P:bW)(n:G)(b:Array a8)(i:G)(l d:St)(k m:G)(p:Ks):Prop:=
 ∃f g,uL P n b i f g (λs=>k<=s/\s<m)/\(∀t∈f,l.kn t.1=ad t.2)/\d.kn=bw l.kn g/\k<=m/\(∀a∈dL f,a∈p.1)/\∀a∈gw g,a∈p.2
section
variable{P:bW}{tt:TT}
def iy.Uw{n}{a}{i}{p b d}{k}{s}(t:mZ P n a i p b k s)(f:d.kn=b.kn):iy P n a i p d k (k+1) s:=by let ⟨rd,wr,u,g,v,l,m⟩:=t;exact⟨rd,wr,u.M7 ⟨aL _,Y⟩,g,by rw[f,v],Y,l,m⟩
def iy.n8{n}{b}{i}{l d:St}{k}{m}{f}{g}(x:jd P n b i f g k)(p:∀v∈f,l.kn v.1=ad v.2)(s:d.kn=bw l.kn g)(t:∀a∈dL f,a∈m.1)(u:∀a∈gw g,a∈m.2):iy P n b i l d k (k+1) m:=
 ⟨f,g,x.M7 ⟨aL _,Y⟩,p,s,Y,t,u⟩
def iy.lift{n}{d}{i}{p}(A:d[i]? =ad p)(u:p.guard=none){v f}{k x}{z}(B:iy P n #[p] 0 v f k x z):iy P n d i v f k x z:=by let ⟨rd,wr,C,h2⟩:=B;refine⟨rd,wr,?_,h2⟩;intro F s Q b D g W a K l m H N;have t:=C F s Q b D g W a K l m H N;unfold wpOp at t⊢;simp[A,iv,u,cz];simp[vR,oG,iv,u,cz]at t;exact t
def iy.guard{n}{d}{i}{x}(ho:d[i]? =ad x){gT}{b}(hg:x.guard=ad (gT,b)){p}(hj:tG d.toList gT=ad p){z t}(hb:o p z.sl=ad (.c<|.B b)){k k'}{A}
  (l:iy P n #[{x with guard:=none}] 0 z t k k' A):iy P n d i z t k k' (.s p::A.1,A.2):=by
 let ⟨rd,wr,y,C,D,hle,H,N⟩:=l
 refine⟨(.s p,.v<|.c<|.B b)::rd,wr,?_,?_,D,hle,λT r=>?_,N⟩
 .intro F X Q m E g W a K u f w G;have e:=y F X Q m E g W a K u f (λq cy=>w q e9) G;have J:iv x (yielded d a.tmps)=ae:=by simp only[iv,hg,F1 hj (f.dW p (.c<|.B b)<|w (.s p,.v<|.c<|.B b) au),beq_self_eq_true]
  unfold wpOp at e⊢;simp only[ho,J,cz];simp only[vR,oG,iv,cz]at e;exact e
 .intro q cy;rcases b7.1 cy with rfl|l
  .simp[St.kn,hb]
  .exact C q l
 .simp only[dL,gX,b7]at r;rcases r with l|l
  .simp[l]
  .exact ls _<|H T l
def Ux(a:St) d x:(⟨jt d x a.sl,a.mem,a.nx,a.gd⟩:St).kn=bw a.kn [(.s d,ad<|.v x)]:=by
 funext key;cases key with
 |s t=>
  by_cases e:d=t
  .simp[St.kn,qm,bw,aD,e]
  .simp[St.kn,qm,bw,aD,e]
 |m id=>simp[St.kn,bw,aD]
def Gy(a:St) d id x b:(⟨jt d x a.sl,(id,b)::a.mem,a.nx,a.gd⟩:St).kn=bw a.kn [(.s d,ad<|.v x),(.m id,ad<|.b b)]:=by
 funext key;cases key with
 |s t=>
  by_cases e:d=t
  .simp[St.kn,qm,bw,aD,e]
  .simp[St.kn,qm,bw,aD,e]
 |m j=>
  by_cases e:id=j
  .simp[St.kn,o,bw,aD,e]
  .simp[St.kn,o,bw,aD,e]
def abW(a:St) d id x b:(⟨jt d x a.sl,jt id b a.mem,a.nx,a.gd⟩:St).kn=bw a.kn [(.s d,ad<|.v x),(.m id,ad<|.b b)]:=by
 funext key;cases key with
 |s t=>
  by_cases e:d=t
  .simp[St.kn,qm,bw,aD,e]
  .simp[St.kn,qm,bw,aD,e]
 |m j=>
  by_cases e:id=j
  .simp[St.kn,qm,bw,aD,e]
  .simp[St.kn,qm,bw,aD,e]
def an7(a:St) d id new x b(f:id≠new):(⟨jt d x a.sl,(new,b)::uU id a.mem,a.nx,a.gd⟩:St).kn=bw a.kn [(.s d,ad<|.v x),(.m new,ad<|.b b),(.m id,none)]:=by
 funext key;cases key with
 |s t=>
  by_cases e:d=t
  .simp[St.kn,qm,bw,aD,e]
  .simp[St.kn,qm,bw,aD,e]
 |m j=>
  by_cases e:new=j
  .simp[St.kn,o,bw,aD,e]
  .simp[St.kn,o,bw,aD,e,b8,C'];split<;>simp
end
abbrev JX:=FuncId->E AV->E (G×aA)->G->aw (AV×E (G×aA)×G)
def N9{a:Type}:E (G×a)->E (G×a)
 |[]=>[]
 | (t,v)::b=>jt t v b
def pC(s m:Bool)(a:St):St:=⟨cond s (N9 a.sl) a.sl,cond m (N9 a.mem) a.mem,a.nx,a.gd⟩
def abX{b:Type}(a:G):∀l:E (G×b),o a (N9 l)=o a l
 |[]=>rfl
 | (t,v)::d=>by simp[N9,qm,o]
def abY s m st:(pC s m st).kn=st.kn:=by
 funext key;cases key with
 |s t=>cases s<;>simp[St.kn,pC,abX]
 |m id=>cases m<;>simp[St.kn,pC,abX]
def Bk(d:TT)(g i:G):aw (G×TI):=match o g d,o i d with
 |some a,ad b=>(match a.kind,b.kind with
  | .sl E,.sl _=>(match o E d with
   |some f=>if 0<f.size then ad (E,f)else none
   |none=>none)
  |_,_=>none)
 |_,_=>none
def reach:G->E (G×aA)->E G->E (G×aA)->E (G×aA)
 |0,_,_,acc=>acc
 |_+1,_,[],acc=>acc
 |f+1,mem,id::todo,acc=>match o id acc with
  |some _=>reach f mem todo acc
  |none=>(match o id mem with
   |some b=>reach f mem (b.ak++todo)<|(id,b)::acc
   |none=>reach f mem todo acc)
def JY(a b d:G):Bool:=fa ((b+b/4+192)*d) 281474976710656&&fa b 16777216&&fa a 16777216
def Gz(fm:E (G×aA)):E (G×aA)->E (G×aA)
 |[]=>[]
 | (id,b)::a=>match o id fm with
  |some _=>Gz fm a
  |none=>(id,b)::Gz fm a
def Uy(p:TT)(n k d:G)(x g:fE)(t u:G)(a:St):aw (St×G×Ks):=match Bk p t u with
 |some (E,f)=>(match a.ev x,a.ev g with
  |some v,ad z=>(match we a f.size z with
   |some (m,cs,is)=>if cs.all lO=ae then(match v with
    | .c (.V<|.slice none 0 0)=>if m=0 then ad (⟨jt d (.c<|.V<|.slice none 0 0) a.sl,a.mem,a.nx,a.gd⟩,k+1,(bN [x,g]++da is,[.s d]))
     else if JY 0 m f.bytes then ad (⟨jt d (.c<|.L k 0 m none) a.sl,(k,.box E f.size cs)::a.mem,a.nx,a.gd⟩,k+1,(bN [x,g]++da is,[.s d,.m k]))else none
    | .c (.L id off len<|ad c)=>(match o id a.mem with
     |some (.box i l b)=>if len+m<=c then
       (if off+(len+m)*f.size<=Z b then ad (⟨jt d (.c<|.L id off (len+m)<|ad c) a.sl,jt id (.box i l<|cR b cs<|off+len*f.size) a.mem,a.nx,a.gd⟩,k+1,(bN [x,g]++da (id::is),[.s d,.m id]))else none)
      else(if off+len*f.size<=Z b/\JY 0 (len+m) f.bytes=ae then ad (⟨jt d (.c<|.L k 0 (len+m) none) a.sl,(k,.box E f.size<|(az off b).take (len*f.size)++cs)::a.mem,a.nx,a.gd⟩,k+1,(bN [x,g]++da (id::is),[.s d,.m k]))else none)
     |_=>none)
    | .c (.L id _ len none)=>(match o id a.mem with
     |some (.box i l b)=>if i=E/\l=f.size/\len*f.size<=Z b/\id≠k/\JY 0 (len+m) f.bytes=ae then
       ad (⟨jt d (.c<|.L k 0 (len+m) none) a.sl,(k,.box E f.size<|r (len*f.size) b++cs)::uU id a.mem,a.nx,a.gd⟩,k+1,(bN [x,g]++da (id::is),[.s d,.m k,.m id]))else none
     |_=>none)
    |_=>none)else none
   |none=>none)
  |_,_=>none)
 |none=>none
section
variable{P:bW}{tt:TT}
def N'(f:cE P tt=ae){x A B}{n}(d:Bk tt x A=ad (B,n)):Gt P x A B n.size n.bytes:=by
 unfold Bk at d;split at d
 .rename_i a b H K;split at d
  .rename_i Q T p s;split at d
   .rename_i t g;split at d
    .rename_i i;simp at d;obtain⟨rfl,rfl⟩:=d;have C:=(fw f H).kind;rw[p]at C;have D:=(fw f K).kind;rw[s]at D;let ⟨inf,k,l,m,z,u,v⟩:=(fw f g).info;have N:=(fw f g).aaM;refine⟨C,⟨_,D⟩,⟨inf,z,k,l,m,u,?_⟩,i⟩;have:Z z.cells.toList=Z (t.zero.map ZV.fU):=by rw[v]
     simp[JE]at this;omega
    .simp at d
   .simp at d
  .simp at d
 .simp at d
def Uz{a d b}(f:JY a d b=ae):(d+d/4+192)*b<=281474976710656/\d<=140737488355328:=by simp only[JY,cP]at f;have i:=c7 f.1.2;exact⟨c7 f.1.1,Y⟩
def Dt{b}{x d}{a}:∀f∈dL (cQ b x++cQ b d++fZ b a),f∈bN [x,d]++da a:=by
 intro k g;simp only[dL,gf,bl]at g;rcases g with(h|h)|h
 .exact eT _<|ff b [x,d] k uV
 .exact eT _<|ff b [x,d] k xH
 .exact gO _<|kE b a k h
def GA{d}{x g}{b}:∀a∈cQ d x++cQ d g++fZ d b,d.kn a.1=ad a.2:=by
 intro a f;rcases bl.1 f with h|h
 .rcases bl.1 h with h|h
  .exact eQ _ x a h
  .exact eQ _ g a h
 .exact ly _ b a h
def an8(cK:cE P tt=ae){n k d:G}(b:d<n){t:a8}(u:t.guard=none)(v:t.dst=ad d){x cc}{t1 t2:G}(f:t.op= .call ⟨.builtin .append,#[x,cc],#[t1,t2]⟩){l z}{k'}{ks}
  (a:Uy tt n k d x cc t1 t2 l=ad (z,k',ks)):iy P n #[t] 0 l z k k' ks:=by
 have A:(#[t]:Array a8)[0]? =ad t:=rfl
 unfold Uy at a
 split at a
 .rename_i E r w;have B:=N' cK w;split at a
  .rename_i L M C D;split at a
   .rename_i m O is H;split at a
    .rename_i g;split at a
     .split at a
      next q=>subst q;simp only[aq,bM]at a;obtain⟨rfl,rfl,rfl⟩:=a;exact .n8 (anK A u v b f B C D H g k) GA (Ux l d _) Dt n9
      .split at a
       next q p=>let ⟨K,h2⟩:=Uz p;simp only[aq,bM]at a;obtain⟨rfl,rfl,rfl⟩:=a;have:=abK A u v b f B C D (len:=0) (c:=0) (cb:=[]) (ib:=[]) (by rfl) H g Y (by simpa using K) sk k;simp only[fD,vW]at this;exact .n8 this GA (Gy l d k _ _) Dt n9
       .simp at a
     .rename_i T N s c;split at a
      .rename_i F I Q W;split at a
       .rename_i e;split at a
        next i=>simp only[aq,bM]at a;obtain⟨rfl,rfl,rfl⟩:=a;exact .n8 (anL A u v b f B C D W H g e i k) GA (abW l d T _ _) Dt n9
        .simp at a
       .rename_i J;split at a
        next X=>let ⟨K,h2⟩:=Uz X.2;simp only[aq,bM]at a;obtain⟨rfl,rfl,rfl⟩:=a;have:=abK A u v b f B C D (len:=s) (c:=c) (cb:=(az N Q).take<|s*r.size) (ib:=[T]) (by simp[Uh,W,X.1]) H g Y K h2 k;exact .n8 this GA (Gy l d k _ _) Dt n9
        .simp at a
      .simp at a
     .rename_i T N s;split at a
      .rename_i F I Q W;split at a
       next X=>obtain⟨rfl,rfl,i,j,p⟩:=X;let ⟨K,h2⟩:=Uz p;simp only[aq,bM]at a;obtain⟨rfl,rfl,rfl⟩:=a;exact .n8 (anM A u v b f B C D W H g i K h2 k) GA (an7 l d T k _ _ j) Dt n9
       .simp at a
      .simp at a
     .simp at a
    .simp at a
   .simp at a
  .simp at a
 .simp at a
end
def Oa(fm a mem:E (G×aA)):E (G×aA):=match fm with
 |[]=>a++mem
 |fm=>a++Gz fm mem
def UA(g:JX)(k d:G)(i:fE)(args:E fE)(b:St):aw (St×G×Ks):=match wo b i args with
 |some (f,vs,ids)=>(match reach 1000 b.mem (cX vs) []with
  |fm=>(match g f vs fm k with
   |some (r,a,l)=>if vZ k (cX vs)&&tI k fm&&zp k fm r.ak&&zq k fm a then
     ad (⟨jt d r b.sl,Oa fm a b.mem,b.nx,b.gd⟩,l,(bN (i::args)++da (ids++fm.map (·.1)),.s d::(da (fm.map (·.1))++da (a.map (·.1)))))
    else none
   |none=>none))
 |none=>none
def GB{b:Type}(a:G):∀(l m:E (G×b)),o a (l++m)=match o a l with|some x=>ad x|none=>o a m
 |[],m=>rfl
 | (t,v)::l,m=>by
  simp[mY,o];split
  .rfl
  .exact GB a l m
def UB(fm:E (G×aA))(a:G):∀l:E (G×aA),o a (Gz fm l)=if(o a fm).isSome then none else o a l
 |[]=>by simp[Gz,o]
 | (id,b)::g=>by
  simp[Gz];split
  .rename_i x f;rw[UB fm a g];by_cases d:id=a
   .subst d;simp[f]
   .simp[o,d]
  .rename_i f;simp[o];by_cases d:id=a
   .subst d;simp[f]
   .simp[d,b8];exact UB fm a g
def an9(fm a mem:E (G×aA))(b:G):o b (Oa fm a mem)=match o b a with|some x=>ad x|none=>if(o b fm).isSome then none else o b mem:=by
 unfold Oa;split
 .rw[GB];cases o b a<;>simp[o]
 .rw[GB,UB];cases o b a<;>rfl
def Ob(mem:E (G×aA)):∀(f:G)(d:E G)(a:E (G×aA)),(∀i b,o i a=ad b->o i mem=ad b)->∀i b,o i (reach f mem d a)=ad b->o i mem=ad b
 |0,_,a,g=>by simpa[reach]using g
 |f+1,[],a,g=>by simpa[reach]using g
 |f+1,i::d,a,g=>by
  simp[reach];split
  .exact Ob mem f d a g
  .split
   .rename_i b l;refine Ob mem f _ _ ?_;intro m n k;simp[o]at k;split at k
    next p=>subst p;cases k;exact l
    .exact g m n k
   .exact Ob mem f d a g
section
variable{P:bW}{tt:TT}
def an'(f:St) d k n fm a(g:zq k fm a=ae):(⟨jt d n f.sl,Oa fm a f.mem,f.nx,f.gd⟩:St).kn=bw f.kn ((.s d,ad<|.v n)::(qk a fm++kX k a)):=by
 funext key;cases key with
 |s t=>
  by_cases e:d=t
  .simp[St.kn,qm,bw,aD,e]
  .simp[St.kn,qm,bw,aD,e,wi,Gv,zn]
 |m j=>
  simp[St.kn,bw,aD,b8,wi,JO,zo,an9]
  by_cases h:(o j fm).isSome=ae
  .simp[h,cz];cases o j a<;>rfl
  .simp[h,b8,jx];cases p:o j a with
   |none=>by_cases i:k<=j<;>simp[i]
   |some b=>
    have i:k<=j:=by
     rcases(Uo g j b p).1 with l|⟨u,l⟩
     .exact l
     .rw[l]at h;simp at h
    simp[i]
def abZ(a:E (G×aA)):∀fm:E (G×aA),gw (qk a fm)=da (fm.map (·.1))
 |[]=>rfl
 | (id,b)::d=>by simp[qk,gw,gX,da];have:=abZ a d;simp[gw]at this;rw[this]
def UC(k:G):∀(fm:E (G×aA)),∀a∈gw (kX k fm),a∈da (fm.map (·.1))
 |[],a,d=>by simp[kX,gw]at d
 | (id,b)::f,a,d=>by
  simp only[kX]at d;simp only[gX,da,b7];split at d
  .simp only[gw,gX,b7]at d;rcases d with d|d
   .exact .inl d
   .exact .inr<|UC k f a d
  .exact .inr<|UC k f a d
def aoa{t:JX}(u:∀f vs fm k N g v,t f vs fm k=ad (N,g,v)->CX P f vs fm k N g v){n k d:G}(T:d<n){s:a8}(hg:s.guard=none)(hd:s.dst=ad d){z}{args}{W}(b9:s.op= .call ⟨.value z,args,W⟩){p A}{v}{ks}
  (h:UA t k d z args.toList p=ad (A,v,ks)):iy P n #[s] 0 p A k v ks:=by
 have w:(#[s]:Array a8)[0]? =ad s:=rfl
 unfold UA at h
 split at h
 .rename_i f vs B y;generalize X:reach 1000 p.mem (cX vs) []=fm at h;simp only at h;split at h
  .rename_i N g L F;split at h
   .rename_i q;simp only[cP]at q;let ⟨⟨⟨c,e⟩,j⟩,C⟩:=q;simp only[aq,bM]at h;obtain⟨rfl,rfl,rfl⟩:=h;have D:=u _ _ _ _ _ _ _ F;refine⟨_,_,Uv w hg hd T b9 y D c e j C ?_,?_,an' p d k N fm g C,D.le,?_,?_⟩
    .rw[<-X];exact Ob p.mem 1000 _ [] (λM b h=>by simp[o]at h)
    .intro Q H;simp only[bl]at H;rcases H with((h|h)|h)|h
     .exact eQ _ z Q h
     .let ⟨x,_,h⟩:=js.1 h;exact eQ p x Q h
     .exact ly _ B Q h
     .exact ly _ _ Q h
    .intro i K;simp only[dL,gf,bl]at K;have I:∀(l m:E G),da (l++m)=da l++da m:=by
      intro l m;induction l with
      |nil=>rfl
      |cons a l J=>simp only[mY,da,J]
     rw[I];simp only[bl];rcases K with((h|h)|h)|h
     .exact .inl<|ff p (z::args.toList) i uV
     .exact .inl (ff p (z::args.toList) i<|by simp only[dL,l6,gf,bl];exact .inr h)
     .exact .inr<|.inl<|kE p B i h
     .exact .inr<|.inr<|kE p _ i h
    .intro i K;simp only[gw,gX,gf,b7,bl]at K⊢;rcases K with h|h|h
     .exact .inl h
     .refine .inr<|.inl ?_;rw[<-abZ g fm];exact h
     .exact .inr<|.inr<|UC k g i h
   .simp at h
  .simp at h
 .simp at h
end
def JZ(a:p8):E C->aw (E V)
 |[]=>ad []
 | .I k n::b=>if k=a then(match JZ a b with
  |some l=>ad<|n::l
  |none=>none)else none
 |_::_=>none
def Oc(a:Bool)(b:p8)(d:E C):aw (E V):=match JZ b d with
 |some l=>(match a,l with
  |true,l=>ad l
  |false,[n]=>ad [n]
  |false,_=>none)
 |none=>none
def u5(a:Bool)(b:p8)(k:E V):E (E C×E C)->aw (aw<|E C)
 |[]=>ad none
 |x::d=>match Oc a b x.1 with
  |some f=>if f=k then ad (ad x.2)else u5 a b k d
  |none=>none
def u6(b:Bool)(d:p8)(k:E V)(a vc:E C):E (E C×E C)->aw (E<|E C×E C)
 |[]=>ad [(a,vc)]
 |x::f=>match Oc b d x.1 with
  |some g=>if g=k then ad ((a,vc)::f)else(match u6 b d k a vc f with
   |some i=>ad<|x::i
   |none=>none)
  |none=>none
def ab0{g:Gh}{b:p8}:∀{d:E C}{l:E V}{vs:E aT},JZ b d=ad l->a6 g d vs->vs=l.map (Value.int b)
 |[],l,vs,a,hr=>by simp only[JZ,aq]at a;subst a;exact hr
 | .I k n::t,l,vs,a,hr=>by
  simp only[JZ]at a;split at a
  .rename_i f;split at a
   next u i=>cases a;subst f;obtain⟨v,m,rfl,p,s⟩:=hr;cases p;simp[ab0 i s]
   .cases a
  .cases a
 | .any::_,_,_,a,_=>by cases a
 | .B _::_,_,_,a,_=>by cases a
 | .V _::_,_,_,a,_=>by cases a
 | .S _ _::_,_,_,a,_=>by cases a
 | .P _ _::_,_,_,a,_=>by cases a
 | .X _::_,_,_,a,_=>by cases a
 | .Y _ _ _ _::_,_,_,a,_=>by cases a
 | .E _ _ _::_,_,_,a,_=>by cases a
 | .M _::_,_,_,a,_=>by cases a
 | .L _ _ _ _::_,_,_,a,_=>by cases a
 | .W _ _ _::_,_,_,a,_=>by cases a
def ab1{g}{b}{d}{l}{vs}(a:Oc ah b d=ad l)(f:a6 g d vs):∃n,l=[n]/\vs=[.int b n]:=by
 unfold Oc at a;split at a
 .rename_i k i;have:=ab0 i f;split at a
  .contradiction
  next n _=>cases a;exact⟨n,J,this⟩
  .cases a
 .cases a
def jr.length{g:Gh}{d f:Bool}:∀{n:G}{xs:E (E C×E C)}{a:E Od},jr g d f n xs a->Z a=Z xs
 |_,[],_,b=>by simp only[jr]at b;subst b;rfl
 |_,_::_,_,⟨l,m,i,_,_,_,k⟩=>by subst i;simp[k.length]
def jr.snoc{g:Gh}{b d:Bool}{a:Od}{x:E C×E C}(f:∃i,a.key=uK b i/\a6 g x.1 i)(k:∃vs,a.val=uK d vs/\a6 g x.2 vs):∀{n:G}{xs:E (E C×E C)}{l:E Od},jr g b d n xs l->a.born=n+Z xs->jr g b d n (xs++[x]) (l++[a])
 |n,[],_,m,hb=>by simp[jr]at m;subst m;exact⟨a,[],J,tH,f,k,J⟩
 |n,_::xs,_,⟨p,z,s,h2,t,u,v⟩,hb=>by subst s;exact⟨p,_,J,h2,t,u,jr.snoc f k v<|by simp at hb;omega⟩
def ab2{g:Gh}{a:p8}{z:Bool}{m:V}:∀{n:G}{xs:E (E C×E C)}{d:E Od},jr g ah z n xs d->∀{f:aw (E C)},u5 ah a [m] xs=ad f->∀i:G,
  match f with
  |none=>wq (.int a) (.int a m) d i=ad none
  |some vc=>∃k vs,wq (.int a) (.int a m) d i=ad (ad (i+k,uK z vs))/\a6 g vc vs
 |n,[],d,A,f,hr,i=>by simp[jr]at A;subst A;simp[u5]at hr;subst hr;rfl
 |n,x::xs,d,⟨B,l,N,h2,⟨ks,P,s⟩,⟨vs,Q,t⟩,T⟩,f,hr,i=>by
  subst N;simp[u5]at hr;split at hr
  .rename_i k' W;obtain⟨p,rfl,rfl⟩:=ab1 W s;have b:B.key= .int a p:=P;have D:UD (.int a) (.int a m) (.int a p)=ad (m==p):=by simp[UD]
   split at hr
   next K=>cases K;cases hr;refine⟨0,vs,?_,t⟩;simp[wq,b,D,Q]
   .rename_i u;have X:(m==p)=ah:=by simp[beq_eq_false_iff_ne,ne_eq];intro c;exact u (by rw[c])
    have H:wq (.int a) (.int a m) (B::l) i=wq (.int a) (.int a m) l (i+1):=by simp[wq,b,D,X]
    have v:=ab2 T hr<|i+1;cases f with
    |none=>simp only at v⊢;rw[H];exact v
    |some vc=>
     obtain⟨k,o,w,y⟩:=v
     exact⟨k+1,o,by rw[H,w,(Y:i+1+k=i+(k+1))],y⟩
  .cases hr
def ab3{g:Gh}{a:p8}{A:Bool}{m:V}{kc vc:E C}{ks vs:E aT}(s:a6 g kc ks)(t:ks=[.int a m])(u:a6 g vc vs):∀{n:G}{xs b:E (E C×E C)}{k:E Od},jr g ah A n xs k->u6 ah a [m] kc vc xs=ad b->∀i:G,
  (wq (.int a) (.int a m) k i=ad none/\b=xs++[(kc,vc)])\/
  ∃l B f,wq (.int a) (.int a m) k i=ad (ad (i+l,B))/\k[l]? =ad f/\f.key= .int a m/\Z b=Z xs/\jr g ah A n b (k.modify l λf=>{f with key:= .int a m,val:=uK A vs})
 |n,[],b,k,Q,hr,i=>by simp[jr]at Q;subst Q;simp[u6]at hr;subst hr;exact .inl ⟨J,J⟩
 |n,x::xs,b,k,⟨f,p,h1,h2,⟨dC,T,v⟩,⟨D,h4,H⟩,W⟩,hr,i=>by
  subst h1;simp[u6]at hr;split at hr
  .rename_i k' hk;obtain⟨z,rfl,rfl⟩:=ab1 hk v;have d:f.key= .int a z:=T;have X:UD (.int a) (.int a m) (.int a z)=ad (m==z):=by simp[UD]
   split at hr
   next o=>cases o;cases hr;refine .inr ⟨0,f.val,f,by simp[wq,d,X],J,d,J,?_⟩;exact⟨_,p,J,h2,⟨ks,by rw[t];rfl,s⟩,⟨vs,J,u⟩,W⟩
   .rename_i K;have r:(m==z)=ah:=by simp[beq_eq_false_iff_ne,ne_eq];intro y;exact K (by rw[y])
    have c:wq (.int a) (.int a m) (f::p) i=wq (.int a) (.int a m) p (i+1):=by simp[wq,d,X,r]
    split at hr
    .rename_i R N;cases hr;rcases ab3 s t u W N (i+1)with⟨P,rfl⟩|⟨l,B,F,P,I,L,M,O⟩
     .exact .inl ⟨by rw[c];exact P,J⟩
     .refine .inr ⟨l+1,B,F,by rw[c,P,(Y:i+1+l=i+(l+1))],I,L,by simp[M],?_⟩;exact⟨f,_,J,h2,⟨_,T,v⟩,⟨D,h4,H⟩,O⟩
    .cases hr
  .cases hr
def ab4{f:Bool}{g:p8}{k:E V}:∀{xs:E (E C×E C)}{vc:E C},u5 f g k xs=ad (ad vc)->∀d∈b6 vc,d∈lZ xs
 |[],_,a,_,_=>by simp[u5]at a
 |x::i,vc,a,d,b=>by
  simp[u5]at a;split at a
  .split at a
   .cases a;simp[lZ,b]
   .simp[lZ,ab4 a d b]
  .cases a
def ab5{l:Bool}{m:p8}{k:E V}{i vc:E C}:∀{xs d:E (E C×E C)},u6 l m k i vc xs=ad d->∀f∈lZ d,f∈lZ xs\/f∈b6 i\/f∈b6 vc
 |[],_,a,f,b=>by simp[u6]at a;subst a;simp[lZ]at b;exact .inr b
 |x::n,d,a,f,b=>by
  simp[u6]at a;split at a
  .split at a
   .cases a;simp[lZ]at b⊢;rcases b with a|a|a
    .exact .inr<|.inl a
    .exact .inr<|.inr a
    .exact .inl<|.inr<|.inr a
   .split at a
    .rename_i p g;cases a;simp[lZ]at b⊢;rcases b with a|a|a
     .exact .inl<|.inl a
     .exact .inl<|.inr<|.inl a
     .rcases ab5 g f a with a|a
      .exact .inl<|.inr<|.inr a
      .exact .inr a
    .cases a
  .cases a
def Du(g f:Bool)(d:E C)(b:Bool):aw AV:=match g with
 |true=>(match f,d with
  |true,d=>ad<|.t [(ae,d),(ah,[.B b])]
  |false,[c]=>ad<|.t [(ah,[c]),(ah,[.B b])]
  |false,_=>none)
 |false=>(match f,d with
  |true,d=>ad<|.a d
  |false,[c]=>ad<|.c c
  |false,_=>none)
def ab6{g}{k f}{l}{b}{v}{vs}(a:Du k f l b=ad v)(d:a6 g l vs):bh g v (if k then .tuple #[uK f vs,.bool b]else uK f vs):=by
 unfold Du at a;split at a
 .split at a
  .cases a;exact⟨[_,_],J,_,_,J,⟨vs,J,d⟩,_,_,J,J,J⟩
  next c=>cases a;obtain⟨u,r,rfl,i,m⟩:=d;exact⟨[_,_],J,_,_,J,i,_,_,J,J,J⟩
  .cases a
 .split at a
  .cases a;exact⟨vs,J,d⟩
  next c=>cases a;obtain⟨u,r,rfl,i,m⟩:=d;exact i
  .cases a
def aob{f g}{d}{b}{v}(a:Du f g d b=ad v):∀i∈v.ak,i∈b6 d:=by
 unfold Du at a;split at a
 .split at a
  .cases a;simp[AV.ak,et,b6,C.ak]
  .cases a;simp[AV.ak,et,b6,C.ak]
  .cases a
 .split at a
  .cases a;simp[AV.ak]
  .cases a;simp[AV.ak,b6]
  .cases a
def aoc{H}{W}(g:Sub H W){b}{i:Obj}(k:∀a,H b a=none):Sub H {W with heap:=W.heap.setIfInBounds b i}:=by
 intro f a v d;by_cases e:b=f
 .subst e;rw[k a]at d;cases d
 .simp[World.cell?,l0 e];exact g f a v d
section
variable{P:bW}{tt:TT}
def ab7{T}{i}{p:a8}{d:G}(ho:T[i]? =ad p)(hg:p.guard=none)(hd:p.dst=ad d){n}(dG:d<n){t}(b9:p.op= .makeMap t none) ka va new:
  jd P n T i [] [(.s d,ad<|.v<|.c<|.X new),(.m new,ad<|.b<|.mp ka va [])] new:=by
 intro F lM Q B L g W a K z aX E I
 have w:(execOp a.eval p).run P W= .ok (.value<|.map<|ad W.heap.size) {W with heap:=W.heap.push<|.map #[] 0}:=by rw[execOp,b9];rfl
 unfold wpOp
 simp only[ho,iv,hg,cz]
 refine .inl ?_
 unfold p'
 rw[w]
 simp only[ph,hd]
 have j:d<a.tmps.size:=nX
 let v:aT:= .map<|ad W.heap.size
 let D:Gh:=⟨g.H,λA=>if A=new then v else g.γ A⟩
 have N:D.γ new=v:=by simp[D]
 have q:gN B g D:=⟨cL.refl _,λA l=>by
  have:A≠new:=λe=>z<|e▸l
  simp[D,this]⟩
 have x:∀p,g.H W.heap.size p=none:=by
  intro p;cases hv:g.H W.heap.size p with
  |none=>rfl
  |some v=>
   have:=C5 W _<|aX.sub _ _ _ hv
   simp at this
 refine I D _ _<|aX.step (chg:=λ_=>False) (g':=D) ⟨q,λ_ _ _=>rfl,C4 aX.sub _,au,λk r _=>FU W _ k r,J,J,J⟩ _ new z pj aX.defers (λt f=>JM f) (λ_ h=>h.elim) ?_ ?_ ?_ ?_
 .intro t u f;simp only[aD]at f;split at f
  next e=>simp only[Key.s.injEq]at e;simp only[aq,Info.v.injEq]at f;subst e;subst f;show _=D.γ new;rw[N];simp[iK,j,v]
  .simp at f
 .intro A b f;simp only[aD,reduceCtorEq,b8]at f;split at f
  next e=>simp only[Key.m.injEq]at e;subst e;simp only[aq,Info.b.injEq]at f;subst f;refine⟨⟨W.heap.size,#[],N,au,J,.inl aX.below.size,x⟩,.inr ⟨J,λk r=> .inl ?_⟩⟩;rw[N]at r;simp only[cO,v,aq]at r;omega
  .simp at f
 .intro k y f;simp only[aD]at f;split at f
  .simp only[aq]at f;subst f;intro A l;simp[Info.ak,AV.ak,C.ak]at l;exact .inr l
  .split at f
   .simp only[aq]at f;subst f;intro A l;simp[Info.ak,aA.ak,lZ]at l
   .simp at f
 .intro A y f;simp only[aD,reduceCtorEq,b8]at f;split at f
  next e=>simp only[Key.m.injEq]at e;exact .inr e.symm
  .simp at f
def ab8(p:cE P tt=ae){T}{i}{aG:a8}{d:G}(ho:T[i]? =ad aG)(hg:aG.guard=none)(hd:aG.dst=ad d){n}(dG:d<n){t}{x cc}{ok}(b9:aG.op= .lookup t x cc ok)
 {D}{H}{jA:p8} {m:V} (hx:D.ev x=ad (.c<|.X H)) (hy:D.ev cc=ad (.c<|.I jA m)) {kt vt:G} {ti ki N:TI} (pq:o t tt=ad ti) (hk:ti.kind= .map kt vt) (Dv:o kt tt=ad ki) (qj:ki.kind= .int jA) (wu:o vt tt=ad N)
  {xs:E (E C×E C)} (hl:o H D.mem=ad (.mp ah N.agg xs)) {a7:aw (E C)} (hr:u5 ah jA [m] xs=ad a7) {v:AV} (hv:Du ok N.agg (a7.getD<|N.zero.map ZV.qP) a7.isSome=ad v) (new:G):
  jd P n T i ([x,cc].flatMap (cQ D)++fZ D [H]) [(.s d,ad<|.v v)] new:=by
 refine uO ho hg hd dG _ v new ?_
 intro F R σ g W a f K
 have l:=dY f D x _ hx<|λS cy=>K S e9
 have u:=dY f D cc _ hy<|λS cy=>K S e9
 have e:σ (.m H)=ad (.b<|.mp ah N.agg xs):=K (.m H,.b<|.mp ah N.agg xs) sb
 let ⟨b,es,U,hh,Y,hN,hz⟩:=f.cM H _ e
 have l:a.eval x=g.γ H:=l
 have u:a.eval cc= .int jA m:=u
 rw[U]at l
 have Z:=(fw p pq).kind
 rw[hk]at Z
 have A:=(fw p Dv).kind
 rw[qj]at A
 have O:=ab2 Y hr 0
 refine⟨?_,?_⟩
 .intro j hj;have h1:=aob hv j hj;cases a7 with
  |none=>
   rw[Option.getD_none,Nu]at h1
   cases h1
  |some vc=>exact f.ak _ _ e j<|ab4 hr j h1
 .have h:=aod (w:=W) A (k:= .int jA m) J es.isEmpty 9999;cases a7 with
  |none=>
   let ⟨inf,B,_,_,z,L,y8⟩:=(fw p wu).info
   have GC:(zeroValue vt).run P W= .ok z W:=by simp[zeroValue,typeInfo,B,L]
   refine⟨_,?_,ab6 hv<|A4 g N.zero⟩
   rw[execOp,b9]
   simp only[Instr.lookup,l,u,dH,run_underlying Z,eo,UF hh,C0,h,UE (P:=P) (w:=W) A O,GC,(fw p wu).zag _ _ B L]
   rfl
  |some vc=>
   obtain⟨j,ws,O,I1⟩:=O
   refine⟨_,?_,ab6 hv I1⟩
   rw[execOp,b9]
   simp only[Instr.lookup,l,u,dH,run_underlying Z,eo,UF hh,C0,h,UE (P:=P) (w:=W) A O]
   rfl
def ab9(cK:cE P tt=ae){ops}{i}{aG}(ho:ops[i]? =ad aG)(hg:aG.guard=none)(hd:aG.dst=none){n}{t:TypeId}{x cc z}(b9:aG.op= .mapUpdate t x cc z)
 {D}{H}{p}{m:V} {u:AV} {va:Bool} {vc:E C} (hx:D.ev x=ad (.c<|.X H)) (hy:D.ev cc=ad (.c<|.I p m)) (GC:D.ev z=ad u) (Gj:sj u=ad (va,vc)) {kt vt:G} {ti ki:TI} (pq:o t tt=ad ti) (hk:ti.kind= .map kt vt) (Dv:o kt tt=ad ki) (qj:ki.kind= .int p)
  {xs N:E (E C×E C)} (hl:o H D.mem=ad (.mp ah va xs)) (hp:u6 ah p [m] [.I p m] vc xs=ad N) (new:G):
  jd P n ops i ([x,cc,z].flatMap (cQ D)++fZ D [H]) [(.m H,ad<|.b<|.mp ah va N)] new:=by
 intro F lM Q known σ g W a K Y f v hK
 have A:=dY f D x _ hx<|λO cy=>v O e9
 have T:=dY f D cc _ hy<|λO cy=>v O e9
 have s:σ (.m H)=ad (.b<|.mp ah va xs):=v (.m H,.b<|.mp ah va xs) sb
 let ⟨b,es,R,hh,S,hN,hz⟩:=f.cM H _ s
 have A:a.eval x=g.γ H:=A
 have T:a.eval cc= .int p m:=T
 rw[R]at A
 have hu:=(fw cK pq).kind
 rw[hk]at hu
 have r:=(fw cK Dv).kind
 rw[qj]at r
 have GD:∃vs,a.eval z=uK va vs/\a6 g vc vs:=by
  have:=T2 Gj<|dY f D z _ GC<|λO cy=>v O e9;cases va with
  |true=>exact this
  |false=>
   match vc,this with
   |[c],h=>exact⟨[a.eval z],J,_,_,J,h,J⟩
   |[],h=>exact h.elim
   |_::_::_,h=>exact h.elim
 let ⟨vs,hvz,Oe⟩:=GD
 have Og:=aod (w:=W) r (k:= .int p m) J ah 9999
 have hlen:=S.length
 have GF:∃L,(execOp a.eval aG).run P W= .ok .skip {W with heap:=W.heap.setIfInBounds b<|.map L<|Z N}/\jr g ah va 0 N L.toList:=by
  rcases ab3 (g:=g) (kc:=[.I p m]) (ks:=[.int p m]) ⟨_,_,J,J,J⟩ J Oe S hp 0 with⟨hf,rfl⟩|⟨j,w,e,hf,he,sB,hle,B⟩
  .refine⟨es.push ⟨.int p m,a.eval z,Z xs⟩,?_,?_⟩
   .rw[execOp,b9];simp only[Instr.mapUpdate,A,T,dH,run_underlying hu,eo,UF hh,C0,Og,UE (P:=P) (w:=W) r hf,aog _ hh,iV,qn]
   .rw[Array.toList_push];exact jr.snoc (x:=([.I p m],vc)) ⟨[.int p m],J,_,_,J,J,J⟩ ⟨vs,hvz,Oe⟩ S au
  .have JS:es[j]? =ad e:=by simpa using he
   refine⟨es.modify j λe=>{e with key:= .int p m,val:=a.eval z},?_,by rw[Array.toList_modify,hvz];exact B⟩;rw[execOp,b9];simp only[Instr.mapUpdate,A,T,dH,run_underlying hu,eo,UF hh,C0,Og,UE (P:=P) (w:=W) r hf,fD,JS,xK,tK,sB,MapKept.run_keyThatStays (P:=P) (w:=W) (d:= .int p) (k:= .int p m) J,aog _ hh,hle]
 let ⟨L,hex,B⟩:=GF
 unfold wpOp
 simp only[ho,iv,hg,cz]
 refine .inl ?_
 unfold p'
 rw[hex]
 simp only[ph,hd,iK]
 have hb:b<W.heap.size:=(fY.1 hh).1
 refine hK g _ a<|f.step (chg:=λj=>j=H) (g':=g) ⟨⟨cL.refl _,λ_ _=>rfl⟩,λ_ _ _=>rfl,aoc f.sub hz,au,?_,J,J,J⟩ _ new Y J f.defers (λ_ _=>rfl) ?_ ?_ ?_ ?_ ?_
 .intro k hk eZ;have:b≠k:=λe=>eZ H J (by rw[R,e];rfl)
  exact l0 this
 .intro j M;subst M;exact⟨y7,_,s⟩
 .intro t' v' ht;simp[aD]at ht
 .intro j bk M;simp only[aD]at M;split at M
  next e=>simp only[Key.m.injEq]at e;subst e;simp only[aq,Info.b.injEq]at M;subst M;exact⟨⟨b,L,R,by simp[hb],B,hN,hz⟩,.inl ⟨f.dX _ _ s,_,s⟩⟩
  .simp at M
 .intro k z' l;simp only[aD]at l;split at l
  .simp only[aq]at l;subst l;intro j M;rcases ab5 hp j M with h|h|h
   .exact .inl<|f.ak _ _ s j h
   .simp[b6,C.ak]at h
   .refine .inl<|(tx f D z _ GC<|λO cy=>v O e9) j ?_;rw[<-N3 Gj];exact h
  .simp at l
 .intro j z' l;simp only[aD]at l;split at l
  next e=>simp only[Key.m.injEq]at e;subst e;exact .inl<|f.dX _ _ s
  .simp at l
end
end Go.El
