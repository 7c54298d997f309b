/- Own work; no condition. -/
import Derived.MapKept
import Derived.Carry
import Derived.Test.YtceihkmakfdcnaaGreatI2
set_option linter.all false
set_option maxHeartbeats 16000000
set_option maxRecDepth 100000
open Bool renaming true->af,false->ak
open Go renaming Program->bO,World->cA,Value->aT,Oper->a8,Operand->ff,IntKind->pE,MapEntry->Nr
open Go.Act renaming put->iq
open Go.Builtin renaming append_->yz,firstCells->Az,zeroCells->Th
open Go.Deferred renaming ofValue->yJ
open Go.El renaming iA->L
open Go.Instr renaming sliceBound->SC,sliceAt->Tb,sliceBounds->yk,slice->aan,buildSlice->IL,findNow->vN,sameNow->TB
open Go.MapKept renaming run_checkKey->amw,run_findKey->TC,run_getObj_map->TD,run_setObj_map->amz
open Go.Oper renaming wp->pG,upon->oL
open Go.Region renaming wanted->gZ
open Go.Result renaming andThen->dM
open Go.Sem renaming run_bind->dq,run->mr,run_pure->Cf
open Go.World renaming block_lt_of_cell?->Cm
open List renaming length->Z,replicate->bt,drop->az,take->c
open Nat renaming ble->eL
open Option renaming some->ae
open _root_ renaming Nat->G,Option->aw,Int->V,List->E
namespace Go.El
open Go Go.RowKit
def M7(a:TT)(t:G):aw G:=match L t a with
 |some b=>(match b.kind with
  | .sl e=>(match L e a with|some d=>ae d.size|none=>none)
  |_=>none)
 |none=>none
def M8(a:TT)(t:G)(x i:AV):aw (AV×Pr):=match x,i with
 | .c (.L id off len _),.c (.I _ k)=>(match M7 a t with
  |some sz=>ae (.c<|.P id<|off+Int.toNat k*sz,.and (.le 0 k)<|.lt k len)
  |none=>none)
 |_,_=>none
def yB(m:G):aw AV->G->aw (G×Pr)
 |none,d=>ae (d,.t)
 |some (.c<|.I _ k),_=>ae (Int.toNat k,.and (.le 0 k)<|.le k m)
 |_,_=>none
def Ta(f:TT)(t:G)(x:AV)(d a b:aw AV):aw (AV×Pr):=match x,M7 f t with
 | .c (.L id off len<|ae c),ae sz=>(match yB c b c with
  |some (m,p1)=>(match(if b.isSome&& !a.isSome then none else yB m a len)with
   |some (h,g)=>(match yB h d 0 with
    |some (l,i)=>ae (.c<|.L id (if m=l then off else off+l*sz) (h-l)<|ae<|m-l,.an p1<|.an g i)
    |none=>none)
   |none=>none)
  |none=>none)
 | .c (.L id off len none),ae _=>(match d,b with
  |none,none=>(match yB len a len with
   |some (h,p)=>ae (.c<|.L id off h none,p)
   |none=>none)
  |_,_=>none)
 | .c (.V<|.slice none 0 0),ae _=>(match b,yB 0 a 0 with
  |none,ae (h,p)=>(match yB h d 0 with
   |some (_,q)=>ae (.c<|.V<|.slice none 0 0,.an p q)
   |none=>none)
  |_,_=>none)
 |_,_=>none
def M9(a:TT)(t:G)(x:AV):aw AV:=match L t a with
 |some b=>(match b.kind with
  | .sl _=>(match x with
   | .c (.L _ _ len _)=>ae<|.c<|.I .i64 len
   |_=>none)
  |_=>none)
 |none=>none
def aam(a x b:aw AV):aw (AV×Pr):=match a,x,b with
 |some (.c<|.B af),ae v,_=>ae (v,.t)
 |some (.c<|.B ak),_,ae v=>ae (v,.t)
 |_,_,_=>none
def FA(b:TT)(a:St):Op->aw (AV×Pr)
 | .pick f x g=>aam (a.ev f) (a.ev x)<|a.ev g
 | .indexAddr t x i=>(match a.ev x,a.ev i with|some v,ae k=>M8 b t v k|_,_=>none)
 | .slice t x lo n p=>(match a.ev x,Ai a lo,Ai a n,Ai a p with|some v,ae l,ae s,ae m=>Ta b t v l s m|_,_,_,_=>none)
 | .call ⟨.builtin .len,args,d⟩=>(match args.toList,d.toList with
  |[x],[t]=>(match a.ev x with|some v=>(match M9 b t v with|some u=>ae (u,.t)|none=>none)|none=>none)
  |_,_=>none)
 |_=>none
section
variable{P:bO}{tt:TT}{g:Gh}{W:cA}
def Na(b:cw P tt=af){t n}(a:M7 tt t=ae n):∃d i,P.underlying t=ae (.slice d)/\P.info? d=ae i/\i.size=n:=by
 refine ES b ?_;unfold M7 at a;unfold yi;split at a
 .rename_i s f;split at a
  .rename_i d k;split at a
   .rename_i l m;have p:l.size=n:=IT a;simp[f,k,m,p]
   .simp at a
  .simp at a
 .simp at a
def alV(m:cw P tt=af){t}{x i n}{p}(a:M8 tt t x i=ae (n,p))(T:p){v u}(Q:bf g x v)(hu:bf g i u):(∃z,(Instr.indexAt t v u).run P W= .ok z W/\bf g n z)/\∀s∈n.al,s∈x.al:=by
 unfold M8 at a;split at a
 .rename_i s f l A X k;split at a
  .rename_i sz B;simp only[ar,bQ]at a;obtain⟨rfl,rfl⟩:=a;let ⟨e,i,D,j,o⟩:=Na m B;have H:u= .int X k:=hu;subst H;have d:0<=k/\k<(l:V):=T;have K:∃b c,cF (g.γ s)=ae b/\v= .slice (ae ⟨b,f,none⟩) l c:=by
    cases A with
    |some c=>let ⟨b,N,h2⟩:=Q;exact⟨b,c,N,h2⟩
    |none=>let ⟨q,b,c,N,h2,_⟩:=Q;subst q;exact⟨b,c,by rw[N];rfl,h2⟩
   obtain⟨b,c,r,rfl⟩:=K;refine⟨⟨.pointer<|ae ⟨b,f+Int.toNat k*sz,none⟩,?_,b,r,J⟩,sI⟩;simp only[Instr.indexAt,asIntOf,dq,run_underlying D,dM];simp[d,run_sizeOf j,o,mW]
  .simp at a
 .simp at a
def yC{m}{x}{d b}{p}(a:yB m x d=ae (b,p))(n:p){v}(f:Aj g x v)(code:BoundsCode):
  (x=none/\v=none/\b=d)\/(∃u,x.isSome=af/\v=ae u/\b<=m/\(SC u m code).run P W= .ok b W):=by
 unfold yB at a
 split at a
 .simp only[ar,bQ]at a;cases v with
  |none=>exact .inl ⟨J,J,a.1.symm⟩
  |some u=>exact f.elim
 .rename_i s k;simp only[ar,bQ]at a;obtain⟨rfl,rfl⟩:=a;cases v with
  |none=>exact f.elim
  |some u=>
   have i:u= .int s k:=f
   subst i
   have l:0<=k/\k<=(m:V):=n
   refine .inr ⟨_,J,J,Y,?_⟩
   simp[SC,asIntOf,l,mr,pure]
 .simp at a
def alW(cC:cw P tt=af){t}{x cN}{lo hi mx}{p}(a:Ta tt t x lo hi mx=ae (cN,p))(hp:p){v}{vl vh vm}(hv:bf g x v)
  (hl:Aj g lo vl) (hh:Aj g hi vh) (hm:Aj g mx vm):
  (∃z,(Tb t v vl vh vm).run P W= .ok z W/\bf g cN z)/\∀id∈cN.al,id∈x.al:=by
 unfold Ta at a
 split at a
 .rename_i id E k c sz A;let ⟨e,i,B,D,O⟩:=Na cC A;split at a
  .rename_i m p1 H;split at a
   .rename_i f p2 s;split at a
    .rename_i l p3 F;simp only[ar,bQ]at a;obtain⟨rfl,rfl⟩:=a;let ⟨G,R⟩:=Pr.Ia hp;let ⟨K,I⟩:=Pr.Ia R;obtain⟨b,H6,rfl⟩:=hv;have N:¬(mx.isSome=af/\hi.isSome=ak):=by intro S;rw[q (by simp[S.1,S.2])]at s;cases s
     have o:yB m hi k=ae (f,p2):=by rw[j (by intro S;simp only[cG,IC]at S;exact N S)]at s;exact s
     refine⟨⟨.slice (if m=l then ae ⟨b,E,none⟩else ae ⟨b,E+l*sz,none⟩) (f-l)<|m-l,?_,b,H6,?_⟩,sI⟩
     .have Q:(yk af k c vl vh vm).run P W= .ok (l,f,m) W:=by
       unfold yk;rcases yC (P:=P) (W:=W) H G hm .slice3Acap with⟨U,rfl,rfl⟩|⟨u1,U,rfl,_,V⟩
       .rcases yC (P:=P) (W:=W) o K hh .sliceAcap with⟨X,rfl,rfl⟩|⟨u2,X,rfl,_,L⟩
        .rcases yC (P:=P) (W:=W) F I hl .sliceB with⟨T,rfl,rfl⟩|⟨u3,T,rfl,_,Z⟩<;>simp[*]
        .rcases yC (P:=P) (W:=W) F I hl .sliceB with⟨T,rfl,rfl⟩|⟨u3,T,rfl,_,Z⟩<;>simp[*]
       .rcases yC (P:=P) (W:=W) o K hh .slice3B with⟨X,rfl,rfl⟩|⟨u2,X,rfl,_,L⟩
        .exact aJ ⟨U,by simp[X]⟩ N
        .rcases yC (P:=P) (W:=W) F I hl .slice3C with⟨T,rfl,rfl⟩|⟨u3,T,rfl,_,Z⟩<;>simp[*]
      simp only[Tb,dq,run_underlying B,dM,aan,Q,run_sizeOf D,O];split<;>simp[pure,mW]
     .split<;>rfl
    .simp at a
   .simp at a
  .simp at a
 .rename_i id E k sz A;let ⟨e,i,B,D,O⟩:=Na cC A;split at a
  .split at a
   .rename_i f p1 H;simp only[ar,bQ]at a;obtain⟨rfl,rfl⟩:=a;obtain⟨h0,b,c,hγ,rfl,hle⟩:=hv;subst h0;have vu:vl=none:=by cases vl with|none=>rfl|some _=>exact hl.elim
    have M:vm=none:=by cases vm with|none=>rfl|some _=>exact hm.elim
    subst vu M;have r:=SB (P:=P) (W:=W) (n:=k) (x:=hi) (d:=k) (h:=f) (p:=p1) (by rw[<-H];cases hi with|none=>rfl|some jL=>cases jL with|c jL=>cases jL<;>rfl|_=>rfl) hp hh c hle .sliceAcap;have w:f<=k:=by rcases r with⟨_,_,e⟩|⟨_,_,a,_⟩<;>omega
    refine⟨⟨.slice (ae ⟨b,0,none⟩) f c,?_,J,b,c,hγ,J,Y⟩,sI⟩;have Q:(yk af k c none vh none).run P W= .ok (0,f,c) W:=by unfold yk;rcases r with⟨_,rfl,rfl⟩|⟨u,rfl,_,V⟩<;>simp[*]
    simp only[Tb,dq,run_underlying B,dM,aan,Q,run_sizeOf D,O];simp[pure,mW]
   .simp at a
  .simp at a
 .rename_i sz A;let ⟨e,i,B,D,O⟩:=Na cC A;split at a
  .rename_i f p1 H;split at a
   .rename_i l p2 s;simp only[ar,bQ]at a;obtain⟨rfl,rfl⟩:=a;let ⟨G,K⟩:=Pr.Ia hp;have vH:v= .slice none 0 0:=hv;subst vH;have M:vm=none:=by cases vm with|none=>rfl|some _=>exact hm.elim
    subst M;refine⟨⟨.slice none 0 0,?_,J⟩,sI⟩;have Q:(yk af 0 0 vl vh none).run P W= .ok (0,0,0) W:=by
     unfold yk;rcases yC (P:=P) (W:=W) H G hh .sliceAcap with⟨_,rfl,rfl⟩|⟨u1,_,rfl,Tc,V⟩
     .rcases yC (P:=P) (W:=W) s K hl .sliceB with⟨_,rfl,rfl⟩|⟨u2,_,rfl,w,L⟩
      .simp[*]
      .have:l=0:=by omega
       subst this;simp[*]
     .have:f=0:=by omega
      subst this;rcases yC (P:=P) (W:=W) s K hl .sliceB with⟨_,rfl,rfl⟩|⟨u2,_,rfl,w,L⟩
      .simp[*]
      .have:l=0:=by omega
       subst this;simp[*]
    simp only[Tb,dq,run_underlying B,dM,aan,Q,run_sizeOf D,O];simp[pure]
   .simp at a
  .simp at a
 .simp at a
def alX(f:cw P tt=af){t r:G}{x i:AV}(d:M9 tt t x=ae i){v:aT}(s:bf g x v):(Builtin.len_ #[t] r #[v]).run P W= .ok (match i with| .c (.I k n)=> .int k n|_=>undef) W/\(∃n:V,i= .c (.I .i64 n)):=by
 unfold M9 at d;split at d
 .rename_i C u;split at d
  .rename_i e z;split at d
   .rename_i D A l m _;simp only[ar]at d;subst d;have h2:=(fb f u).kind;rw[z]at h2;have p:∃a c,v= .slice a l c:=by
     cases m with
     |some c=>let ⟨b,B,h2⟩:=s;exact⟨_,c,h2⟩
     |none=>let ⟨H,b,c,B,h2,_⟩:=s;exact⟨_,c,h2⟩
    obtain⟨a,c,rfl⟩:=p;exact⟨Mu,_,J⟩
   .simp at d
  .simp at d
 .simp at d
def aao(cC:cw P tt=af){ops}{i}{N:a8}{d:G}(ho:ops[i]? =ae N)(hg:N.guard=none)(hd:N.dst=ae d){n}(dn:d<n)
 {Q}{x}{p}(b:FA tt Q N.op=ae (x,p)) (hp:p) new:iJ P n ops i (pI Q N.op) [(.s d,ae<|.v x)] new:=by
 refine tX ho hg hd dn _ x new ?_
 intro F X σ g W a k U
 have B:∀y∈N.op.operands,∀R∈cH Q y,σ R.1=ae R.2:=by intro y T R V;exact U R<|iY.2 ⟨y,by simpa using T,V⟩
 have f:∀y∈N.op.operands,∀u,Q.ev y=ae u->bf g u (a.eval y)/\∀j∈u.al,X j:=by intro y T u S;exact⟨dJ k Q y u S<|B y T,sH k Q y u S<|B y T⟩
 generalize H:N.op=op at b f B
 unfold FA at b
 split at b
 .rename_i c y z;unfold aam at b;split at b
  .rename_i v Y T;simp only[ar,bQ]at b;obtain⟨rfl,rfl⟩:=b;have Z:a.eval c= .bool af:=(f c iu _ Y).1;have D:=f y iu _ T;exact⟨D.2,_,by simp[execOp,H,Z,asBool,mr,pure],D.1⟩
  .rename_i v Y T;simp only[ar,bQ]at b;obtain⟨rfl,rfl⟩:=b;have Z:a.eval c= .bool ak:=(f c iu _ Y).1;have D:=f z iu _ T;exact⟨D.2,_,by simp[execOp,H,Z,asBool,mr,pure],D.1⟩
  .simp at b
 .rename_i t y z;split at b
  .rename_i v w L hw;have D:=f y iu _ L;have h2:=f z iu _ hw;let ⟨⟨u,A,K⟩,M⟩:=alV (P:=P) (W:=W) cC b hp D.1 h2.1;exact⟨λj E=>D.2 j<|M j E,u,by simp[execOp,H,A,mr,pure],K⟩
  .simp at b
 .rename_i t y lo hi mx;split at b
  .rename_i v l h m L hl hh M;have D:=f y iu _ L;have h2:=Ij k Q lo l hl<|λq hq=>B q Ik;have h3:=Ij k Q hi h hh<|λq hq=>B q Ik;have h4:=Ij k Q mx m M<|λq hq=>B q Ik;let ⟨⟨u,A,K⟩,M⟩:=alW (P:=P) (W:=W) cC b hp D.1 h2 h3 h4;exact⟨λj E=>D.2 j<|M j E,u,by simp[execOp,H,A,mr,pure],K⟩
  .simp at b
 .rename_i args kj;split at b
  .rename_i y t ha ht;have I:args= #[y]:=Il;have O:kj= #[t]:=SD;subst I O;split at b
   .rename_i v L;split at b
    .rename_i u S;simp only[ar,bQ]at b;obtain⟨rfl,rfl⟩:=b;have D:=f y EU _ L;obtain⟨A,n',rfl⟩:=alX (P:=P) (W:=W) (r:=N.type) cC S D.1;exact⟨sI,.int .i64 n',Fw H (λcs=>by have e:(#[y]:Array ff).map a.eval= #[a.eval y]:=ax;rw[e];simp only[Go.builtin,dq,A,dM];rfl),J⟩
    .simp at b
   .simp at b
  .simp at b
 .simp at b
end
section
variable{P:bO}{tt:TT}
def Td{ops}{i}{N:a8}{d:G}(ho:ops[i]? =ae N)(hg:N.guard=none)(hd:N.dst=ae d){n}(dn:d<n){bp}rd cs sz len z(p:G)
  (cP:∀(gP:dB)(f:G->Prop)(σ:Kn)(g:Gh)(W:cA)(a:Act),aM gP f σ g W a->(∀kx∈rd,σ kx.1=ae kx.2)->
   (∀A∈b8 cs,f A)/\∃(vs rest:E aT)(l:G)(W1:cA),a4 g cs vs/\(execOp a.eval N).run P W= .ok (.value<|.slice (ae ⟨W.heap.size,0,none⟩) len l) {W1 with heap:=W.heap.push<|.cells (vs++rest).toArray bp (0,0)}/\
    W1.os=W.os/\W1.tape=W.tape/\W1.output=W.output/\(∀dT,z=ae dT->l=dT)/\(sz≠0->Z (vs++rest)=l*sz)/\len<=l):
  iJ P n ops i rd [(.s d,ae<|.v<|.c<|.L p 0 len z),(.m p,ae<|.b<|.box bp sz cs)] p:=by
 intro gP ly Q f σ g W a K T aW R V
 let ⟨hm,vs,rest,l,W1,hr,j,Y,e2,e3,q,r,hlen⟩:=cP gP f σ g W a aW R
 unfold wpOp
 simp only[ho,gZ,hg,cr]
 refine .inl ?_
 unfold pG
 rw[j]
 simp only[oL,hd]
 have S:d<a.tmps.size:=nv
 let X:Gh:=⟨g.H,λA=>if A=p then .slice (ae ⟨W.heap.size,0,none⟩) 0 l else g.γ A⟩
 have B:X.γ p= .slice (ae ⟨W.heap.size,0,none⟩) 0 l:=by simp[X]
 have w:gw f g X:=⟨cD.refl _,λA x=>by
  have:A≠p:=λe=>T<|e▸x
  simp[X,this]⟩
 have D:∀N,g.H W.heap.size N=none:=by
  intro N;cases hv:g.H W.heap.size N with
  |none=>rfl
  |some v=>
   have:=Cm W _<|aW.sub _ _ _ hv
   simp at this
 have I:Sub g.H {W1 with heap:=W.heap.push<|.cells (vs++rest).toArray bp (0,0)}:=by have:=Ck aW.sub<|.cells (vs++rest).toArray bp (0,0);exact this
 refine V X _ _<|aW.step (chg:=λ_=>False) (g':=X) ⟨w,λ_ _ _=>rfl,I,ax,λk O _=>EZ W _ k O,Y,e2,e3⟩ _ p T oM aW.defers ?_ (λ_ cP=>cP.elim) ?_ ?_ ?_ ?_
 .intro t ht;have U:d≠t:=ua;simp[iq,lM U]
 .intro t u ht;simp only[aE]at ht;split at ht
  .rename_i e;simp only[Key.s.injEq]at e;simp only[ar,Info.v.injEq]at ht;subst e;subst ht;have M:(a.put (ae d)<|.slice (ae ⟨W.heap.size,0,none⟩) len l).tmps.getD d undef= .slice (ae ⟨W.heap.size,0,none⟩) len l:=by simp[iq,S]
   show c6 X _ _;rw[M];cases z with
   |some dT=>have:=q dT J;subst this;exact⟨W.heap.size,by rw[B];rfl,J⟩
   |none=>exact⟨J,W.heap.size,l,B,J,hlen⟩
  .split at ht
   .simp at ht
   .simp at ht
 .intro A b ht;simp only[aE,reduceCtorEq,bV]at ht;split at ht
  .rename_i e;simp only[Key.m.injEq]at e;subst e;simp only[ar,Info.b.injEq]at ht;subst ht;refine⟨⟨W.heap.size,vs,rest,by rw[B];rfl,ax,a4.mono w hm hr,.inl aW.below.size,D,λh0=>⟨l,B,r h0⟩⟩,.inr ⟨J,λk O=> .inl ?_⟩⟩;rw[B]at O;simp only[cF,ar]at O;omega
  .simp at ht
 .intro k y ht;simp only[aE]at ht;split at ht
  .simp only[ar]at ht;subst ht;intro A x;simp[Info.al,AV.al,C.al]at x;exact .inr x
  .split at ht
   .simp only[ar]at ht;subst ht;exact λA x=> .inl<|hm A x
   .simp at ht
 .intro A y ht;simp only[aE,reduceCtorEq,bV]at ht;split at ht
  .rename_i e;simp only[Key.m.injEq]at e;exact .inr e.symm
  .simp at ht
def alY(cC:cw P tt=af){D}{i}{H:a8}{d:G}(ho:D[i]? =ae H)(hg:H.guard=none)(hd:H.dst=ae d){n}(dn:d<n){t}{x cN}(bW:H.op= .makeSlice t x cN)
 {st}{m:G} {k k2}(hx:st.ev x=ae (.c<|.I k (m:V))) (hy:st.ev cN=ae (.c<|.I k2 (m:V))) {bp}{ti f:TI} (oP:L t tt=ae ti) (hk:ti.kind= .sl bp) (pK:L bp tt=ae f) (S9:0<f.size) (hb:m*f.bytes<=16777216) (nz:m<=16777216) (p:G):
  iJ P n D i (pI st H.op) [(.s d,ae<|.v<|.c<|.L p 0 m<|ae m),(.m p,ae<|.b<|.box bp 0<|Fq (f.zero.map ZV.qm) m)] p:=by
 refine Td ho hg hd dn _ _ _ _ _ p ?_
 intro F h S g W a A C
 have O:a.eval x= .int k (m:V):=dJ A st x _ hx<|λj cq=>C j SX
 have q:a.eval cN= .int k2 (m:V):=dJ A st cN _ hy<|λj cq=>C j SX
 have M:=(fb cC oP).kind
 rw[hk]at M
 let ⟨inf,K,N,Q,z,r,yq⟩:=(fb cC pK).info
 have B:Z (f.zero.map ZV.fC)=f.size:=S8
 have T:z.cells=(f.zero.map ZV.fC).toArray:=E6
 have X:(f.zero.map ZV.fC)≠[]:=by intro e;rw[e]at B;simp at B;omega
 have w:(inf.bytes:V)*(m:V)<=281474976710656:=by
  rw[Q];have:(f.bytes:V)*(m:V)=((m*f.bytes:G):V):=by rw[ic];simp
  rw[this];omega
 have l:=run_make (P:=P) W t bp inf z M K r k k2 m m Y Y w Y
 refine⟨S7,(bt m<|f.zero.map ZV.fC).flatten,[],m,W,M3 (Ao g f.zero) m,?_,J,J,J,λc R=>IT R,ax,aN _⟩
 rw[execOp,bW]
 have u:madeCells z.cells (m*inf.size)=((bt m<|f.zero.map ZV.fC).flatten).toArray:=by rw[N,T,<-B,<-MU _ m X];rfl
 simp only[cx]at l
 rw[u]at l
 simp only[O,q,dq,l,dM,iO]
 rfl
def alZ(cC:cw P tt=af){gP}{l:G->Prop}{σ}{g}{W}{a}(D:aM gP l σ g W a){st}{aF}{t b}{d}(bW:aF.op= .buildSlice t b d){bp}{ei}{A}(S9:0<ei.size)(alH:b*ei.size<=16777216)
  (m:xl tt st t b d.toList=ae (bp,ei,A)) (fS:∀kx∈pI st aF.op,σ kx.1=ae kx.2):
  ∃u:E aT,(execOp a.eval aF).run P W= .ok (.value<|.slice (ae ⟨W.heap.size,0,none⟩) b b) {W with heap:=W.heap.push<|.cells u.toArray bp (0,0)}/\a4 g A u/\Z u=b*ei.size/\∀id∈b8 A,l id:=by
 unfold xl at m
 split at m
 .rename_i ti c;split at m
  .rename_i O S;split at m
   .rename_i k pK;split at m
    .rename_i cs q;simp only[ar,bQ]at m;obtain⟨rfl,rfl,rfl⟩:=m;have R:=(fb cC c).kind;rw[S]at R;let ⟨inf,xb,H,_,z,hz,yq⟩:=(fb cC pK).info;have K:z.cells=(k.zero.map ZV.fC).toArray:=E6;let ⟨u,N,jz,r,w⟩:=Ix D st (xk k.size 0 b) (λi=>ae (i*k.size,k.size)) (λi x h=>by rw[M2 _ _ _ _ _ h];simp) d.toList _ _ _ q (M3 (Ao g k.zero) b) (λp U kx y=>fS kx<|by rw[bW];refine iY.2 ⟨p.2,?_,y⟩;simp only[Op.operands,kf];exact⟨p,U,J⟩) S7;have n:Z (k.zero.map ZV.fC)=k.size:=S8;have Q:Z u=b*k.size:=by rw[r,Z3,n]
     refine⟨u,?_,jz,Q,w⟩;have B:execOp a.eval aF=(do pure (.value<|<-IL t b (d.map λ(i,x)=>(i,a.eval x)))):=w8;have T:(d.map λ(i,x)=>(i,a.eval x)).toList=d.toList.map λp=>(p.1,a.eval p.2):=ax
     have I:(zeroValue O).run P W= .ok z W:=SP;have s:((Array.range<|b*k.size).map<|λi=>(k.zero.map ZV.fC).toArray[i%(k.zero.map ZV.fC).toArray.size]!)=((bt b<|k.zero.map ZV.fC).flatten).toArray:=by have:=MU (k.zero.map ZV.fC) b (by intro e;rw[e]at n;simp at n;omega);rw[n]at this;exact this
     have V:(IL t b<|d.map λ(i,x)=>(i,a.eval x)).run P W= .ok (.slice (ae ⟨W.heap.size,0,none⟩) b b) {W with heap:=W.heap.push<|.cells u.toArray O (0,0)}:=by
      unfold IL;rw[dq,run_underlying R];simp only[dM];rw[dq,run_sizeOf xb];simp only[dM,H];rw[j Y];by_cases X:b*k.size=0
      .have C:b=0:=by
        rcases Nat.mul_eq_zero.1 X with h|h
        .exact h
        .omega
       subst C;have L:u=[]:=gA (by rw[Q];simp);subst L;have v:=N;simp only[Fs,List.flatten_nil]at v;have M:∀f:G->aT,(Array.range 0).map f= #[]:=λf=>by simp
       simp only[pM,cr,pure_bind,M,T,v];rfl
      .rw[j X];simp only[pure_bind,dq,I,dM,K,s,T,N];rfl
     rw[B,dq,V];rfl
    .simp at m
   .simp at m
  .simp at m
 .simp at m
def al0(D:cw P tt=af){u}{i}{x:a8}{d:G}(ho:u[i]? =ae x)(hg:x.guard=none)(hd:x.dst=ae d){n}(H:d<n){t f:G}{k}(N:x.op= .buildSlice t f k)
 {T}{bp}{Q}{cs}(z:0<Q.size) (l:f*Q.size<=16777216) (hv:xl tt T t f k.toList=ae (bp,Q,cs)) (p:G):
  iJ P n u i (pI T x.op) [(.s d,ae<|.v<|.c<|.L p 0 f<|ae f),(.m p,ae<|.b<|.box bp 0 cs)] p:=by
 refine Td ho hg hd H _ _ _ _ _ p ?_
 intro F C e g W a A K
 let ⟨us,B,hr,hl,hm⟩:=alZ D A N z l hv K
 exact⟨hm,us,[],f,W,hr,by simpa using B,J,J,J,λc X=>IT X,ax,aN _⟩
end
def vI(b:St)(sz:G):AV->aw (G×E C×E G)
 | .c (.L id off len _)=>(match L id b.mem with
  |some (.box _ _ cs)=>if off+len*sz<=Z cs then ae (len,(az off cs).take<|len*sz,[id])else none
  |some (.fz _ cs)=>if off+len*sz<=Z cs then ae (len,(az off cs).take<|len*sz,[id])else none
  |_=>none)
 | .c (.S T a)=>if T.n=sz then ae (Z a,a.flatMap<|av T,[])else none
 | .c (.V<|.slice none 0 0)=>ae (0,[],[])
 |_=>none
section
variable{P:bO}{tt:TT}
def Te{u}(a:oO u=af):u.oneCell'=af:=by revert a;cases u<;>simp[oO,Value.oneCell']
def aap{T:ET}:∀(d:E T.den),∀b∈d.flatMap (av T),lz b=af
 |[],b,a=>by simp at a
 |f::d,b,a=>by
  simp only[lQ,bg]at a;rcases a with a|a
  .exact E0 T f b a
  .exact aap d b a
def aaq{T:ET}:∀(d:E T.den),b8 (d.flatMap<|av T)=[]
 |[]=>rfl
 |g::d=>by
  refine S6.2 λf a=>?_
  rw[lQ]at a;rcases EX _ _ f a with b|b
  .rw[Ir]at b;cases b
  .rw[aaq d]at b;cases b
def aar{g:Gh}(T:ET):∀(xs:E T.den)(vs:E aT),Z vs=Z xs*T.n->(∀i(a:i<Z xs),de g.H T xs[i] ((az (i*T.n) vs).take T.n))->a4 g (xs.flatMap<|av T) vs
 |[],vs,hl,_=>by have:vs=[]:=gA vj;subst this;rfl
 |x::xs,vs,hl,a=>by rw[lQ];have b:=a 0 ax;simp only[pM,qx,w6]at b;have:=a4.append (Ae (g:=g) T x _ b) (aar T xs (az T.n vs) (by simp at hl⊢;rw[hl,fZ];omega)<|λi d=>by have:=a (i+1) (by simpa using d);simp only[Ci]at this;rw[rF];rw[(Ii:T.n+i*T.n=(i+1)*T.n)];exact this);rwa[uj]at this
def CI{gP}{x:G->Prop}{σ}{g}{W}{a}(i:aM gP x σ g W a){st}{y}{sz m}{cs}{ids}(k:vI st sz y=ae (m,cs,ids)){v}(Q:bf g y v)
  (fS:∀N∈ids,∀b,L N st.mem=ae b->σ (.m N)=ae (.b b)) {t cJ}(hu:P.underlying t=ae (.slice cJ)) (rM:cs.all lz=af):
  ∃H:E aT,Src P sz t v m H W/\a4 g cs H/\(∀N∈b8 cs,x N)/\∀u∈H,oO u=af:=by
 have p:∀H,a4 g cs H->∀u∈H,oO u=af:=λH K=>K.one<|λc hc=>nw.1 rM c hc
 unfold vI at k
 split at k
 .rename_i N d f X;split at k
  .rename_i bp bz o R;split at k
   .rename_i M;simp only[ar,bQ]at k;obtain⟨rfl,rfl,rfl⟩:=k;have z:=fS N ax _ R;let ⟨b,vs,rest,l,hh,K,hN,hz,vJ⟩:=i.cE N _ z;have A:∃c,v= .slice (ae ⟨b,d,none⟩) f c:=by
     cases X with
     |some c=>
      let ⟨S,s,h2⟩:=Q
      rw[l]at s
      cases s
      exact⟨c,h2⟩
     |none=>
      let ⟨U,S,c,s,h2,_⟩:=Q
      rw[s]at l
      simp only[cF,ar]at l
      subst l U
      exact⟨c,h2⟩
    obtain⟨c,rfl⟩:=A;have n:a4 g ((az d o).take<|f*sz) ((az d vs).take<|f*sz):=(K.drop d).take _;have V:=K.length;have B:Z ((az d vs).take<|f*sz)=f*sz:=b6;refine⟨_,Src.ofSlice W hu ⟨b,d,none⟩ f c _ B ?_<|λu q=>Te<|p _ n u q,n,?_,p _ n⟩
    .intro j u Y;let ⟨r,C⟩:=qn.1 Y;simp only[sK,vk]at C;have w:d+j<Z vs:=by rw[B]at r;omega
     simp only[mW];rw[w7 hh (d+j) b6,rz w,C]
    .intro I D;exact i.al _ _ z I<|Ic _ _ _<|ER _ _ _ D
   .simp at k
  .rename_i bp o R;split at k
   .rename_i M;simp only[ar,bQ]at k;obtain⟨rfl,rfl,rfl⟩:=k;have z:=fS N ax _ R;let ⟨b,vs,rest,l,hh,K,hN,hz⟩:=i.cE N _ z;have A:∃c,v= .slice (ae ⟨b,d,none⟩) f c:=by
     cases X with
     |some c=>
      let ⟨S,s,h2⟩:=Q
      rw[l]at s
      cases s
      exact⟨c,h2⟩
     |none=>
      let ⟨U,S,c,s,h2,_⟩:=Q
      rw[s]at l
      simp only[cF,ar]at l
      subst l U
      exact⟨c,h2⟩
    obtain⟨c,rfl⟩:=A;have n:a4 g ((az d o).take<|f*sz) ((az d vs).take<|f*sz):=(K.drop d).take _;have V:=K.length;have B:Z ((az d vs).take<|f*sz)=f*sz:=b6;refine⟨_,Src.ofSlice W hu ⟨b,d,none⟩ f c _ B ?_<|λu q=>Te<|p _ n u q,n,?_,p _ n⟩
    .intro j u Y;let ⟨r,C⟩:=qn.1 Y;simp only[sK,vk]at C;have w:d+j<Z vs:=by rw[B]at r;omega
     simp only[mW];rw[w7 hh (d+j) b6,rz w,C]
    .intro I D;exact i.al _ _ z I<|Ic _ _ _<|ER _ _ _ D
   .simp at k
  .simp at k
 .rename_i T ys;split at k
  .rename_i hT;simp only[ar,bQ]at k;obtain⟨rfl,rfl,rfl⟩:=k;subst hT;let ⟨H,s,h2,h3,h4⟩:=aae (P:=P) Q;have O:∀w':cA,(Builtin.lenOf v).run P w'= .ok (Z ys) w':=by obtain⟨a,X,rfl,_⟩:=Q;intro w';rfl
   exact⟨H,⟨.inl ⟨_,hu⟩,O,s W i.sub,s W.drew i.sub,h2,λu hu=>Te<|h4 u hu⟩,aar T ys H h2 h3,by rw[aaq];simp,h4⟩
  .simp at k
 .simp only[ar,bQ]at k;obtain⟨rfl,rfl,rfl⟩:=k;have A:v= .slice none 0 0:=Q;subst A;exact⟨[],Src.ofNil W hu 0,J,by simp[b8],ax⟩
 .simp at k
def aas{W}{n p ty s}{a:TypeInfo}(i:P.underlying n=ae (.slice s))(A:P.info? s=ae a){b off sLen sCap}{t}{m}
 {d vs}{v}(k:Src P a.size p t m d W) (B:W.heap[b]? =ae (.cells vs.toArray v (0,0))) (f:∀u∈d,oO u=af) (l:sLen+m<=sCap) (x:off+sLen*a.size+Z d<=Z vs):
  (yz #[n,p] ty #[.slice (ae ⟨b,off,none⟩) sLen sCap,t]).run P W= .ok (.slice (ae ⟨b,off,none⟩) (sLen+m) sCap) (ji W b (cK vs d<|off+sLen*a.size) v):=by
 have g:=Al (P:=P) b d W vs (off+sLen*a.size) 0 B Y f
 simp only[jZ]at g
 rcases k.kind with⟨C,z⟩|z<;>
  simp[yz,run_underlying i,run_underlying z,sizeOf,typeInfo,A,k.len,l,k.cells,mW,g]
end
section
variable{P:bO}{tt:TT}
structure FB(P:bO)(b t2 E:TypeId)(sz:G)(bytes:G):Prop where
 u1:P.underlying b=ae (.slice E)
 u2:∃e,P.underlying t2=ae (.slice e)
 info:∃a z,P.info? E=ae a/\a.size=sz/\a.bytes=bytes/\a.zero=ae z/\z.cells.size=sz
 pos:0<sz
def Tf(a:St)(sz:G):AV->aw (G×G×E C×E G)
 | .c (.L id off len<|ae b)=>(match L id a.mem with
  |some (.box _ _ cs)=>if off+len*sz<=Z cs then ae (len,b,(az off cs).take<|len*sz,[id])else none
  |_=>none)
 | .c (.V<|.slice none 0 0)=>ae (0,0,[],[])
 |_=>none
def yD{st}{ids}{σ:Kn}(g:∀f∈fK st ids,σ f.1=ae f.2):∀a∈ids,∀b,L a st.mem=ae b->σ (.m a)=ae (.b b):=by intro a d b i;exact g (.m a,.b b)<|iY.2 ⟨a,d,by simp[i]⟩
def Nb{a:Act}{d}{x b}{g i}(f:d.op= .call ⟨.builtin .append,#[x,b],#[g,i]⟩){W k}{v}(l:(yz #[g,i] d.type #[a.eval x,a.eval b]).run P W= .ok v k):(execOp a.eval d).run P W= .ok (.value v) k:=by refine Fw f<|λm=>?_;have e:(#[x,b]:Array ff).map a.eval= #[a.eval x,a.eval b]:=ax;rw[e];simp only[Go.builtin,dq,l,dM];rfl
def aat{ops}{i}{aF:a8}{d:G}(ho:ops[i]? =ae aF)(hg:aF.guard=none)(hd:aF.dst=ae d){n}(dn:d<n){x cN}{t1 t2}(bW:aF.op= .call ⟨.builtin .append,#[x,cN],#[t1,t2]⟩)
 {D}{T}{sz A}(hT:FB P t1 t2 T sz A) {vx vy:AV} (hx:D.ev x=ae vx) (hy:D.ev cN=ae vy) {len c m:G} {cb cs:E C} {ib is:E G} (p:Tf D sz vx=ae (len,c,cb,ib)) (hs:vI D sz vy=ae (m,cs,is)) (rM:cs.all lz=af)
  (IU:c<len+m) (N:((len+m)+(len+m)/4+192)*A<=281474976710656) (al1:len+m<=140737488355328) (Q:G):
  iJ P n ops i (cH D x++cH D cN++fK D (ib++is)) [(.s d,ae<|.v<|.c<|.L Q 0 (len+m) none),(.m Q,ae<|.b<|.box T sz<|cb++cs)] Q:=by
 refine Td ho hg hd dn _ _ _ _ _ Q ?_
 intro F X σ g W a k e
 have w:=dJ k D x _ hx<|λI cq=>e I eK
 have vD:=dJ k D cN _ hy<|λI cq=>e I eK
 have M:=yD (st:=D) (ids:=ib++is) (σ:=σ)<|λI cq=>e I eK
 let ⟨e2,jz⟩:=hT.u2
 let ⟨inf,z,O,xm,R,yA,vB⟩:=hT.info
 let ⟨us,AA,yE,sY,yF⟩:=CI (P:=P) k hs vD (λH q b p=>M H (gx _ q) b p) jz rM
 have r:∃(base:aw Addr)(f:E aT),a.eval x= .slice base len c/\a4 g cb f/\Z f=len*sz/\(∀H∈b8 cb,X H)/\(Az inf.size len<|.slice base len c).run P W.drew= .ok f.toArray W.drew:=by
  unfold Tf at p;split at p
  .rename_i H t l c';split at p
   .rename_i E' bz qy hl;split at p
    .rename_i Nc;simp only[ar,bQ]at p;obtain⟨rfl,rfl,rfl,rfl⟩:=p;have S:=M H ax _ hl;let ⟨b,vs,rest,hγ,hh,hr,hN,hz,vJ⟩:=k.cE H _ S;let ⟨b',h1,h2⟩:=w;rw[hγ]at h1;cases h1;have vu:=hr.length;have B:Z ((az t vs).take<|l*sz)=l*sz:=b6;refine⟨_,(az t vs).take<|l*sz,h2,(hr.drop t).take _,B,?_,?_⟩
     .intro pN U;exact k.al _ _ S pN<|Ic _ _ _<|ER _ _ _ U
     .rw[xm];refine run_firstCells_some W.drew sz l ⟨b,t,none⟩ l c' _ B ?_;intro j u hj;let ⟨EJ,V⟩:=qn.1 hj;simp only[sK,vk]at V;have IV:t+j<Z vs:=by rw[B]at EJ;omega
      simp only[mW];have IQ:W.drew.heap[b]? =ae (.cells (vs++rest).toArray E' (0,0)):=hh;rw[w7 IQ (t+j) b6,rz IV,V]
    .simp at p
   .simp at p
  .simp only[ar,bQ]at p;obtain⟨rfl,rfl,rfl,rfl⟩:=p;have vH:a.eval x= .slice none 0 0:=w;exact⟨none,[],vH,J,ax,by simp[b8],run_firstCells_none W.drew _ 0 0 0⟩
  .simp at p
 let ⟨base,f,AB,hro,hol,IW,Tg⟩:=r
 have hr:=run_append_grow_src (P:=P) W t1 t2 aF.type T inf z hT.u1 O yA base len c f Tg (a.eval cN) m us Nd IU Y (growslice_fits_wide IU<|by rw[R];exact N)
 have xa:=grownCap_ge W (len+m) c T
 refine⟨?_,f++us,(Th z.cells<|grownCap W (len+m) c T-(len+m)).toList,grownCap W (len+m) c T,W.drew,hro.append yE,?_,J,J,J,ax,λ_=>?_,xa⟩
 .intro H q;rcases EX _ _ H q with h|h
  .exact IW H h
  .exact sY H h
 .refine Nb bW ?_;rw[AB,hr];have K:(f++us).toArray++Th z.cells (grownCap W (len+m) c T-(len+m))=(f++us++(Th z.cells<|grownCap W (len+m) c T-(len+m)).toList).toArray:=by apply EV;simp
  rw[K];rfl
 .have B:=AA.newsLen;simp only[iL,hol,B,IN,size_zeroCells,vB,<-fZ];congr 1;omega
def al3{p}{i}{D:a8}{d:G}(ho:p[i]? =ae D)(hg:D.guard=none)(hd:D.dst=ae d){n}(N:d<n){x H}{t1 t2}(Q:D.op= .call ⟨.builtin .append,#[x,H],#[t1,t2]⟩)
 {f}{bp}{sz l}(T:FB P t1 t2 bp sz l) {vy:AV} (hx:f.ev x=ae (.c<|.V<|.slice none 0 0)) (hy:f.ev H=ae vy) {cs:E C} {is:E G} (hs:vI f sz vy=ae (0,cs,is)) (rM:cs.all lz=af) (t:G):
  iJ P n p i (cH f x++cH f H++fK f is) [(.s d,ae<|.v<|.c<|.V<|.slice none 0 0)] t:=by
 refine tX ho hg hd N _ _ t ?_
 intro F K r g W a b m
 have X:a.eval x= .slice none 0 0:=dJ b f x _ hx<|λu cq=>m u eK
 have e:=dJ b f H _ hy<|λu cq=>m u eK
 have h:=yD (st:=f) (ids:=is) (σ:=r)<|λu cq=>m u eK
 let ⟨R,jz⟩:=T.u2
 let ⟨inf,z,A,B,j,w,I⟩:=T.info
 let ⟨us,k,L,M,O⟩:=CI (P:=P) b hs e h jz rM
 refine⟨sI,.slice none 0 0,Nb Q ?_,J⟩
 rw[X]
 have q:=k.cells
 rw[<-B]at q
 simp[yz,run_underlying T.u1,run_underlying jz,sizeOf,typeInfo,A,k.len]
 rw[q]
 rfl
end
section
variable{P:bO}{tt:TT}
def IX{a:Act}{d t}{v}{f:E (Key×aw Info)}{x}(ht:aE ((.s d,x)::f) (.s t)=none):(a.put (ae d) v).tmps.getD t undef=a.tmps.getD t undef:=by have b:d≠t:=ua;simp[iq,lM b]
def al4{ops}{i}{aF:a8}{d:G}(ho:ops[i]? =ae aF)(hg:aF.guard=none)(hd:aF.dst=ae d){n}(dn:d<n){x cN}{t1 t2}(bW:aF.op= .call ⟨.builtin .append,#[x,cN],#[t1,t2]⟩)
 {H}{bp}{sz bytes}(hT:FB P t1 t2 bp sz bytes) {B p f dT:G} {vy:AV} (hx:H.ev x=ae (.c<|.L B p f<|ae dT)) (hy:H.ev cN=ae vy) {Eb:TypeId} {bz:G} {qy:E C} (hl:L B H.mem=ae (.box Eb bz qy)) {m:G} {cs:E C} {is:E G} (hs:vI H sz vy=ae (m,cs,is)) (rM:cs.all lz=af)
  (hle:f+m<=dT) (Nc:p+(f+m)*sz<=Z qy) (new:G):
  iJ P n ops i (cH H x++cH H cN++fK H (B::is)) [(.s d,ae<|.v<|.c<|.L B p (f+m)<|ae dT),(.m B,ae<|.b<|.box Eb bz<|cK qy cs<|p+f*sz)] new:=by
 intro F ly Q V σ g W a K w aW X hK
 have vE:=dJ aW H x _ hx<|λI cq=>X I eK
 have vD:=dJ aW H cN _ hy<|λI cq=>X I eK
 have M:=yD (st:=H) (ids:=B::is) (σ:=σ)<|λI cq=>X I Nf
 let ⟨e2,jz⟩:=hT.u2
 let ⟨inf,z,O,xm,Fy,yA,vB⟩:=hT.info
 let ⟨us,AA,R,sY,yF⟩:=CI (P:=P) aW hs vD (λB bc b hb=>M B (kJ _ bc) b hb) jz rM
 have A:=M B ax _ hl
 let ⟨b,vs,rest,N,hh,hr,hN,hz,vJ⟩:=aW.cE B _ A
 let ⟨b',h1,AB⟩:=vE
 rw[N]at h1
 cases h1
 have lV:=AA.newsLen
 have qk:=R.length
 have vu:=hr.length
 have rN:(f+m)*sz=f*sz+m*sz:=fZ _ _ _
 have q:p+f*sz+Z us<=Z vs:=Y
 have T:=aas (P:=P) (ty:=aF.type) (W:=W) hT.u1 O (b:=b) (off:=p) (sLen:=f) (sCap:=dT) Nd hh yF hle (by rw[xm];simp;omega)
 rw[xm]at T
 have sL:cK (vs++rest) us (p+f*sz)=cK vs us (p+f*sz)++rest:=Mz vs rest us _ q
 unfold wpOp
 simp only[ho,gZ,hg,cr]
 refine .inl ?_
 unfold pG
 rw[Nb bW (by rw[AB];exact T)]
 simp only[oL,hd]
 have S:d<a.tmps.size:=nv
 have hb:b<W.heap.size:=(fJ.1 hh).1
 refine hK g _ _<|aW.step (chg:=λj=>j=B) (g':=g) ⟨⟨cD.refl _,λ_ _=>rfl⟩,λ_ _ _=>rfl,Am aW.sub hz,An,?_,J,J,J⟩ _ new w oM aW.defers (λt r=>IX r) ?_ ?_ ?_ ?_ ?_
 .intro k hk ew;have:b≠k:=λe=>ew B J (by rw[N,e])
  exact ym this
 .intro j D;subst D;exact⟨yp,_,A⟩
 .intro t u r;simp only[aE]at r;split at r
  .rename_i e;simp only[Key.s.injEq]at e;simp only[ar,Info.v.injEq]at r;subst e;subst r;refine⟨b,N,?_⟩;simp[iq,S]
  .simp at r
 .intro j bk D;simp only[aE,reduceCtorEq,bV]at D;split at D
  .rename_i U;simp only[Key.m.injEq]at U;subst U;simp only[ar,Info.b.injEq]at D;subst D;refine⟨⟨b,cK vs us<|p+f*sz,rest,N,MA,hr.cK R _,hN,hz,λh0=>?_⟩,.inl ⟨aW.dI _ _ A,_,A⟩⟩;let ⟨c',e1,e2⟩:=vJ h0;refine⟨c',e1,?_⟩;rw[<-sL,yn _ _ _ b6];exact e2
  .simp at D
 .intro k z' l;simp only[aE]at l;split at l
  .simp only[ar]at l;subst l;intro j D;simp[Info.al,AV.al,C.al]at D;subst D;exact .inl<|aW.dI _ _ A
  .split at l
   .simp only[ar]at l;subst l;intro j D;rcases EY _ _ _ j D with h|h
    .exact .inl<|aW.al _ _ A j h
    .exact .inl<|sY j h
   .simp at l
 .intro j z' l;simp only[aE,reduceCtorEq,bV]at l;split at l
  .rename_i U;simp only[Key.m.injEq]at U;subst U;exact .inl<|aW.dI _ _ A
  .simp at l
def al5{ops}{i}{aF:a8}{d:G}(ho:ops[i]? =ae aF)(hg:aF.guard=none)(hd:aF.dst=ae d){n}(dn:d<n){x cN}{t1 t2}(bW:aF.op= .call ⟨.builtin .append,#[x,cN],#[t1,t2]⟩)
 {st}{bp}{sz bytes}(hT:FB P t1 t2 bp sz bytes) {A off f:G} {vy:AV} (hx:st.ev x=ae (.c<|.L A off f none)) (hy:st.ev cN=ae vy) {qy:E C} (hl:L A st.mem=ae (.box bp sz qy)) {m:G} {cs:E C} {is:E G} (hs:vI st sz vy=ae (m,cs,is)) (rM:cs.all lz=af)
  (Nc:f*sz<=Z qy) (al6:((f+m)+(f+m)/4+192)*bytes<=281474976710656) (al1:f+m<=140737488355328) (B:G):
  iJ P n ops i (cH st x++cH st cN++fK st (A::is)) [(.s d,ae<|.v<|.c<|.L B 0 (f+m) none),(.m B,ae<|.b<|.box bp sz<|c (f*sz) qy++cs),(.m A,none)] B:=by
 intro F ly Q q σ g W a K r aW fS hK
 have vE:=dJ aW st x _ hx<|λkx cq=>fS kx eK
 have vD:=dJ aW st cN _ hy<|λkx cq=>fS kx eK
 have oh:=yD (st:=st) (ids:=A::is) (σ:=σ)<|λkx cq=>fS kx Nf
 let ⟨e2,jz⟩:=hT.u2
 let ⟨inf,z,xb,xm,Fy,yA,vB⟩:=hT.info
 let ⟨us,AA,yE,sY,yF⟩:=CI (P:=P) aW hs vD (λA bc b hb=>oh A (kJ _ bc) b hb) jz rM
 have w:=oh A ax _ hl
 have S9:=hT.pos
 let ⟨b,vs,rest,hγ,hh,hr,hN,hz,vJ⟩:=aW.cE A _ w
 let ⟨I,al7,al8⟩:=vJ Y
 let ⟨h0,b',c',h1,AB,hlc⟩:=vE
 rw[al7]at h1
 simp only[Value.slice.injEq,ar,Addr.mk.injEq,and_true,true_and]at h1
 obtain⟨rfl,rfl⟩:=h1
 have lV:=AA.newsLen
 have qk:=yE.length
 have vu:=hr.length
 have aav:A≠B:=λe=>r<|e▸aW.dI _ _ w
 have R:∀aF,g.H W.heap.size aF=none:=by
  intro aF;cases hv:g.H W.heap.size aF with
  |none=>rfl
  |some v=>
   have:=Cm W _<|aW.sub _ _ _ hv
   simp at this
 have hbW:b<W.heap.size:=(fJ.1 hh).1
 have M:(c (f*sz) vs).length=f*sz:=b6
 have hrp:a4 g (c (f*sz) qy++cs) (c (f*sz) vs++us):=(hr.take _).append yE
 have O:∀j∈b8 (c (f*sz) qy++cs),q j:=by
  intro j D;rcases EX _ _ j D with h|h
  .exact aW.al _ _ w j<|ER _ _ _ h
  .exact sY j h
 have IZ:∃(v':aT)(S:cA)(b' c':G)(p:E aT),(yz #[t1,t2] aF.type #[a.eval x,a.eval cN]).run P W= .ok v' S/\v'= .slice (ae ⟨b',0,none⟩) (f+m) c'/\f+m<=c'/\
   S.heap[b']? =ae (.cells (c (f*sz) vs++us++p).toArray bp (0,0))/\(c (f*sz) vs++us++p).length=c'*sz/\W.heap.size<=S.heap.size/\(∀k,k<W.heap.size->b≠k->S.heap[k]? =W.heap[k]?)/\S.os=W.os/\S.tape=W.tape/\S.output=W.output/\Sub g.H S/\(∀aF,g.H b' aF=none)/\F.N b'/\(W.heap.size<=b'\/b'=b):=by
  by_cases T:f+m<=I
  .have rN:(f+m)*sz<=I*sz:=eB _ T;rw[fZ]at rN;have IP:Z (vs++rest)=Z vs+Z rest:=iL;have X:=aas (P:=P) (ty:=aF.type) (W:=W) hT.u1 xb (b:=b) (off:=0) (sLen:=f) (sCap:=I) Nd hh yF T (by rw[xm];omega);rw[xm,fc]at X;have sL:cK (vs++rest) us (f*sz)=c (f*sz) vs++us++az (f*sz+Z us) (vs++rest):=by unfold cK;rw[yo Y]
   refine⟨_,_,b,I,az (f*sz+Z us)<|vs++rest,by rw[AB];exact X,J,T,by rw[EW hbW,sL],?_,An,λk _ U=>ym U,J,J,J,Am aW.sub hz,hz,hN,.inr J⟩;rw[<-sL,yn _ _ _ Y];exact al8
  .have Tg:(Az inf.size f<|.slice (ae ⟨b,0,none⟩) f I).run P W.drew= .ok (c (f*sz) vs).toArray W.drew:=by
    rw[xm];refine run_firstCells_some W.drew sz f ⟨b,0,none⟩ f I _ M ?_;intro j u D;let ⟨EJ,wY⟩:=qn.1 D;simp only[sK]at wY;have IV:j<Z vs:=by rw[M]at EJ;omega
    simp only[mW,fc];have IQ:W.drew.heap[b]? =ae (.cells (vs++rest).toArray bp (0,0)):=hh;rw[w7 IQ j b6,rz IV,wY]
   have IU:I<f+m:=Y;have hr':=run_append_grow_src (P:=P) W t1 t2 aF.type bp inf z hT.u1 xb yA (ae ⟨b,0,none⟩) f I _ Tg (a.eval cN) m us Nd IU Y (growslice_fits_wide IU<|by rw[Fy];exact al6);have xa:=grownCap_ge W (f+m) I bp;refine⟨_,_,W.heap.size,grownCap W (f+m) I bp,(Th z.cells<|grownCap W (f+m) I bp-(f+m)).toList,by rw[AB];exact hr',J,xa,?_,?_,ax,λk U _=>heap_alloc_old W.drew _ U,J,J,J,Ck aW.sub _,R,.inl aW.below.size,.inl (aN _)⟩
   .rw[show W.heap.size=W.drew.heap.size from J,heap_alloc_new];congr 2;apply EV;simp
   .simp only[iL,M,lV,IN,size_zeroCells,vB,<-fZ];congr 1;omega
 let ⟨v',S,bn,cn,p,X,vH,Ti,hhn,htn,ame,V,Ng,ho2,ho3,amh,hHn,hNn,amk⟩:=IZ
 unfold wpOp
 simp only[ho,gZ,hg,cr]
 refine .inl ?_
 unfold pG
 rw[Nb bW X]
 simp only[oL,hd]
 have CF:d<a.tmps.size:=nv
 let g':Gh:=⟨g.H,λA=>if A=B then .slice (ae ⟨bn,0,none⟩) 0 cn else g.γ A⟩
 have Nh:g'.γ B= .slice (ae ⟨bn,0,none⟩) 0 cn:=by simp[g']
 have Fz:gw q g g':=⟨cD.refl _,λA bc=>by
  have:A≠B:=λe=>r<|e▸bc
  simp[g',this]⟩
 refine hK g' _ _<|aW.step (chg:=λj=>j=A) (g':=g') ⟨Fz,λ_ _ _=>rfl,amh,ame,?_,Ng,ho2,ho3⟩ _ B r oM aW.defers (λt ht=>IX ht) ?_ ?_ ?_ ?_ ?_
 .intro k U ew;exact V k U (λe=>ew A J<|by rw[hγ,e])
 .intro j D;subst D;exact⟨by simp[aE,Ne.symm aav],_,w⟩
 .intro t u ht;simp only[aE]at ht;split at ht
  .rename_i e;simp only[Key.s.injEq]at e;simp only[ar,Info.v.injEq]at ht;subst e;subst ht;refine⟨J,bn,cn,Nh,?_,Ti⟩;simp[iq,CF,vH]
  .simp at ht
 .intro j bk D;simp only[aE,reduceCtorEq,bV]at D;split at D
  .rename_i e';simp only[Key.m.injEq]at e';subst e';simp only[ar,Info.b.injEq]at D;subst D;refine⟨⟨bn,_,p,by rw[Nh];rfl,hhn,a4.mono Fz O hrp,hNn,hHn,λ_=>⟨cn,Nh,htn⟩⟩,.inr ⟨J,λk U=>?_⟩⟩;rw[Nh]at U;simp only[cF,ar]at U;subst U;rcases amk with h|h
   .exact .inl h
   .refine .inr ⟨A,_,w,?_,by rw[hγ,h]⟩;simp[aE,Ne.symm aav]
  .split at D<;>simp at D
 .intro k z' l;simp only[aE]at l;split at l
  .simp only[ar]at l;subst l;intro j D;simp[Info.al,AV.al,C.al]at D;exact .inr D
  .split at l
   .simp only[ar]at l;subst l;exact λj D=> .inl<|O j D
   .split at l<;>simp at l
 .intro j z' l;simp only[aE,reduceCtorEq,bV]at l;split at l
  .rename_i e';simp only[Key.m.injEq]at e';exact .inr e'.symm
  .split at l<;>simp at l
end
section
variable{P:bO}{tt:TT}
def aml{ops}{i}{aF:a8}{d:G}(ho:ops[i]? =ae aF)(hg:aF.guard=none)(hd:aF.dst=ae d){n}(dn:d<n){x cN}{t1 t2}(bW:aF.op= .call ⟨.builtin .copy,#[x,cN],#[t1,t2]⟩)
 {N}{bp}{sz bytes}(hT:FB P t1 t2 bp sz bytes) {B l T:G} {aaw:aw G} {vy:AV} (hx:N.ev x=ae (.c<|.L B l T aaw)) (hy:N.ev cN=ae vy) {Eb:TypeId} {bz:G} {qy:E C} (hl:L B N.mem=ae (.box Eb bz qy)) {m:G} {cs:E C} {is:E G} (hs:vI N sz vy=ae (m,cs,is)) (rM:cs.all lz=af)
  (hle:m<=T) (Nc:l+m*sz<=Z qy) (new:G):
  iJ P n ops i (cH N x++cH N cN++fK N (B::is)) [(.s d,ae<|.v<|.c<|.I .i64 m),(.m B,ae<|.b<|.box Eb bz<|cK qy cs l)] new:=by
 intro F ly Q known σ g W a K M aW X hK
 have O:=dJ aW N x _ hx<|λR cq=>X R eK
 have vD:=dJ aW N cN _ hy<|λR cq=>X R eK
 have S:=yD (st:=N) (ids:=B::is) (σ:=σ)<|λR cq=>X R Nf
 let ⟨e2,jz⟩:=hT.u2
 let ⟨inf,z,U,V,Fy,yA,vB⟩:=hT.info
 let ⟨us,D,yE,sY,yF⟩:=CI (P:=P) aW hs vD (λB bc b hb=>S B (kJ _ bc) b hb) jz rM
 have p:=S B ax _ hl
 let ⟨b,vs,rest,A,hh,hr,hN,hz,vJ⟩:=aW.cE B _ p
 have q:∃c,a.eval x= .slice (ae ⟨b,l,none⟩) T c:=by
  cases aaw with
  |some c=>
   let ⟨b',h1,h2⟩:=O
   rw[A]at h1
   cases h1
   exact⟨c,h2⟩
  |none=>
   let ⟨h0,b',c,h1,h2,_⟩:=O
   rw[h1]at A
   simp only[cF,ar]at A
   subst A h0
   exact⟨c,h2⟩
 let ⟨c,q⟩:=q
 have lV:=D.newsLen
 have qk:=yE.length
 have vu:=hr.length
 have r:l+Z us<=Z vs:=Y
 have vK:=Al (P:=P) b us W (vs++rest) l 0 hh b6 yF
 simp only[jZ]at vK
 have sL:cK (vs++rest) us l=cK vs us l++rest:=Mz vs rest us _ r
 have jx:(Builtin.copy_ #[t1,t2] aF.type #[a.eval x,a.eval cN]).run P W= .ok (.int .i64 m) (ji W b (cK (vs++rest) us l) Eb):=by rw[q];have Tj:Nat.min m T=m:=uk hle;have hc:=D.cells;simp[Builtin.copy_,run_underlying hT.u1,sizeOf,typeInfo,U,D.len,Tj,V,hc,vK,goInt,mr,pure]
 have hex:(execOp a.eval aF).run P W= .ok (.value<|.int .i64 m) (ji W b (cK (vs++rest) us l) Eb):=by refine Fw bW<|λcs=>?_;have e:(#[x,cN]:Array ff).map a.eval= #[a.eval x,a.eval cN]:=ax;rw[e];simp only[Go.builtin,dq,jx,dM];rfl
 unfold wpOp
 simp only[ho,gZ,hg,cr]
 refine .inl ?_
 unfold pG
 rw[hex]
 simp only[oL,hd]
 have CF:d<a.tmps.size:=nv
 have hb:b<W.heap.size:=(fJ.1 hh).1
 refine hK g _ _<|aW.step (chg:=λj=>j=B) (g':=g) ⟨⟨cD.refl _,λ_ _=>rfl⟩,λ_ _ _=>rfl,Am aW.sub hz,An,?_,J,J,J⟩ _ new M oM aW.defers (λt w=>IX w) ?_ ?_ ?_ ?_ ?_
 .intro k hk ew;have:b≠k:=λe=>ew B J (by rw[A,e])
  exact ym this
 .intro j H;subst H;exact⟨yp,_,p⟩
 .intro t u w;simp only[aE]at w;split at w
  .rename_i e;simp only[Key.s.injEq]at e;simp only[ar,Info.v.injEq]at w;subst e;subst w;simp[iq,CF,bf,c6]
  .simp at w
 .intro j bk H;simp only[aE,reduceCtorEq,bV]at H;split at H
  .rename_i e';simp only[Key.m.injEq]at e';subst e';simp only[ar,Info.b.injEq]at H;subst H;refine⟨⟨b,cK vs us l,rest,A,MA,hr.cK yE _,hN,hz,λh0=>?_⟩,.inl ⟨aW.dI _ _ p,_,p⟩⟩;let ⟨c',e1,e2⟩:=vJ h0;refine⟨c',e1,?_⟩;rw[<-sL,yn _ _ _ b6];exact e2
  .simp at H
 .intro k z' f;simp only[aE]at f;split at f
  .simp only[ar]at f;subst f;intro j H;simp[Info.al,AV.al,C.al]at H
  .split at f
   .simp only[ar]at f;subst f;intro j H;rcases EY _ _ _ j H with h|h
    .exact .inl<|aW.al _ _ p j h
    .exact .inl<|sY j h
   .simp at f
 .intro j z' f;simp only[aE,reduceCtorEq,bV]at f;split at f
  .rename_i e';simp only[Key.m.injEq]at e';subst e';exact .inl<|aW.dI _ _ p
  .simp at f
def uo(a:St):E ff->aw (E<|Bool×E C)
 |[]=>ae []
 |x::xs=>(match a.ev x with
  |some v=>(match rJ v,uo a xs with
   |some s,ae b=>ae<|s::b
   |_,_=>none)
  |none=>none)
def Ni{v}{s}(b:rJ v=ae s):b8 s.2=v.al:=by
 cases v with
 |c x=>simp only[rJ,ar]at b;subst b;simp[b8,AV.al]
 |a cs=>simp only[rJ,ar]at b;subst b;rfl
 |t _=>simp[rJ]at b
def Tk{B:dB}{d:G->Prop}{u:Kn}{g:Gh}{W:cA}{a:Act}(m:aM B d u g W a)(i:St):∀(xs:E ff)(k:E (Bool×E C)),uo i xs=ae k->
  (∀f∈xs.flatMap (cH i),u f.1=ae f.2)->dy g k (xs.map a.eval)/\∀l∈dX k,d l
 |[],k,he,_=>by simp only[uo,ar]at he;subst he;exact⟨J,by simp[dX]⟩
 |x::xs,k,he,hr=>by
  simp only[uo]at he;split at he
  .rename_i v z;split at he
   .rename_i s D A n;simp only[ar]at he;subst he;have H:=dJ m i x v z<|λf cq=>hr f eK;have p:=sH m i x v z<|λf cq=>hr f eK;let ⟨h2,t⟩:=Tk m i xs D n (λf cq=>hr f<|by simp only[lQ,bg];exact .inr cq);refine⟨⟨_,_,J,SW A H,h2⟩,?_⟩;intro l b;simp only[dX,bg]at b;rcases b with b|b
    .rw[Ni A]at b;exact p l b
    .exact t l b
   .simp at he
  .simp at he
def aax{ops}{i}{aF:a8}{d:G}(ho:ops[i]? =ae aF)(hg:aF.guard=none)(hd:aF.dst=ae d){n}(dn:d<n){f}{first p}(bW:aF.op= .makeFunc (.func f) first p)
 {st}{fs cs}(hf:uo st first.toList=ae fs) (hc:uo st p.toList=ae cs) new:
  iJ P n ops i ((first.toList++p.toList).flatMap<|cH st) [(.s d,ae<|.v<|.c<|.X new),(.m new,ae<|.b<|.dS f fs cs)] new:=by
 intro F ly Q D Y g W a K B aW q S
 let ⟨I,r⟩:=Tk aW st _ _ hf (λL N=>q L<|by rw[FC];exact eH _ N)
 let ⟨M,w⟩:=Tk aW st _ _ hc (λL N=>q L<|by rw[FC];exact gx _ N)
 have O:(execOp a.eval aF).run P W= .ok (.value<|.func (.func f) (first.toList.map a.eval).toArray (p.toList.map a.eval).toArray) W:=by rw[execOp,bW];have U:first.map a.eval=(first.toList.map a.eval).toArray:=Ar;have V:p.map a.eval=(p.toList.map a.eval).toArray:=Ar;simp only[Instr.makeFunc,U,V];rfl
 unfold wpOp
 simp only[ho,gZ,hg,cr]
 refine .inl ?_
 unfold pG
 rw[O]
 simp only[oL,hd]
 have E:d<a.tmps.size:=nv
 let v:aT:= .func (.func f) (first.toList.map a.eval).toArray (p.toList.map a.eval).toArray
 let T:Gh:=⟨g.H,λA=>if A=new then v else g.γ A⟩
 have j:T.γ new=v:=by simp[T]
 have z:gw D g T:=⟨cD.refl _,λA x=>by
  have:A≠new:=λe=>B<|e▸x
  simp[T,this]⟩
 refine S T _ _<|aW.step (chg:=λ_=>False) (g':=T) ⟨z,λ_ _ _=>rfl,aW.sub,aN _,λ_ _ _=>rfl,J,J,J⟩ _ new B oM aW.defers (λt l=>IX l) (λ_ h=>h.elim) ?_ ?_ ?_ ?_
 .intro t u l;simp only[aE]at l;split at l
  .rename_i e;simp only[Key.s.injEq]at e;simp only[ar,Info.v.injEq]at l;subst e;subst l;show _=T.γ new;rw[j];simp[iq,E,v]
  .simp at l
 .intro A b l;simp only[aE,reduceCtorEq,bV]at l;split at l
  .rename_i e;simp only[Key.m.injEq]at e;subst e;simp only[ar,Info.b.injEq]at l;subst l;refine⟨⟨_,_,j,dy.mono z r I,dy.mono z w M⟩,.inr ⟨J,λk R=>?_⟩⟩;rw[j]at R;simp[cF,v]at R
  .simp at l
 .intro k y l;simp only[aE]at l;split at l
  .simp only[ar]at l;subst l;intro A x;simp[Info.al,AV.al,C.al]at x;exact .inr x
  .split at l
   .simp only[ar]at l;subst l;intro A x;rcases bg.1 x with h|h
    .exact .inl<|r A h
    .exact .inl<|w A h
   .simp at l
 .intro A y l;simp only[aE,reduceCtorEq,bV]at l;split at l
  .rename_i e;simp only[Key.m.injEq]at e;exact .inr e.symm
  .simp at l
end
def nC(a:E aT):Act:={tmps:=a.toArray,defers:=[]}
structure CX(P:bO)(f:FuncId)(vs:E AV)(fm:E (G×aC))(k:G)(r:AV)(a:E (G×aC))(i:G):Prop where
 call:ob P f=af
 le:k<=i
 spec:∀(b:dB)(g:Gh)(W:cA)(d:E aT),b.n=vs.length->d.length=vs.length->aM b (·<k) (St.kn ⟨dG 0 vs,fm,0,[]⟩) g W (nC d)->
  Calls P f d.toArray W (λe l=>∃v m,e= .returned v/\aM {b with n:=1} (·<i) (St.kn ⟨[(0,r)],a,0,[]⟩) m l (nC [v]))
def pO(a:E (G×aC)):E (G×aC)->E (Key×aw Info)
 |[]=>[]
 | (id,_)::d=>(.m id,(L id a).map .b)::pO a d
def kM(k:G):E (G×aC)->E (Key×aw Info)
 |[]=>[]
 | (id,b)::a=>if k<=id then(.m id,ae<|.b b)::kM k a else kM k a
def vL{u v:E (Key×aw Info)}{k:Key}:aE (u++v) k=match aE u k with|some x=>ae x|none=>aE v k:=by
 induction u with
 |nil=>rfl
 |cons p u a=>
  let ⟨b,x⟩:=p
  simp only[lO,aE]
  split
  .rfl
  .exact a
def FD(a:E (G×aC))(t:G):∀fm,aE (pO a fm) (.s t)=none
 |[]=>rfl
 | (id,b)::d=>by simp[pO,aE,FD a t d]
def yG(k:G)(t:G):∀fm,aE (kM k fm) (.s t)=none
 |[]=>rfl
 | (id,b)::a=>by
  simp only[kM];split
  .simp[aE,yG k t a]
  .exact yG k t a
def I1(a:E (G×aC))(d:G):∀fm:E (G×aC),aE (pO a fm) (.m d)=if(L d fm).isSome then ae ((L d a).map .b)else none
 |[]=>rfl
 | (id,b)::g=>by
  simp only[pO,aE,L,Key.m.injEq];by_cases f:id=d
  .simp[f]
  .simp only[f,bV];exact I1 a d g
def yH(k a:G):∀fm:E (G×aC),aE (kM k fm) (.m a)=if k<=a then(L a fm).map (λb=>ae<|.b b)else none
 |[]=>by simp[kM,aE,L]
 | (id,b)::g=>by
  simp only[kM,L];by_cases f:k<=id
  .simp only[f,cr,aE,Key.m.injEq];by_cases d:id=a
   .subst d;simp[f]
   .simp only[d,bV];exact yH k a g
  .simp only[f,bV];by_cases d:id=a
   .subst d;rw[yH k id g];simp[f]
   .simp only[d,bV];exact yH k a g
def AD(k:G)(fm:E (G×aC)):E G->Bool
 |[]=>af
 |id::a=>(eL k id||(L id fm).isSome)&&AD k fm a
def AE(k:G)(fm:E (G×aC)):E (G×aC)->Bool
 |[]=>af
 | (id,b)::a=>(eL k id||(L id fm).isSome)&&AD k fm b.al&&AE k fm a
def Tl{k:G}{fm:E (G×aC)}:∀{l:E G},AD k fm l=af->∀d∈l,k<=d\/∃b,L d fm=ae b
 |[],_,_,a=>by cases a
 |i::m,f,d,a=>by
  simp only[AD,cG,Ap]at f;rcases b9.1 a with rfl|a
  .rcases f.1 with g|g
   .exact .inl<|cQ g
   .exact .inr<|I2.1 g
  .exact Tl f.2 d a
def Tm{k:G}{fm:E (G×aC)}:∀{l:E (G×aC)},AE k fm l=af->∀d b,L d l=ae b->(k<=d\/∃b,L d fm=ae b)/\∀g∈b.al,k<=g\/∃b,L g fm=ae b
 |[],_,_,_,a=>by simp[L]at a
 | (g,x)::n,f,d,b,a=>by
  simp only[AE,cG,Ap]at f;simp only[L]at a;split at a
  .rename_i m;subst m;cases a;refine⟨?_,Tl f.1.2⟩;rcases f.1.1 with i|i
   .exact .inl<|cQ i
   .exact .inr<|I2.1 i
  .exact Tm f.2 d b a
def gL.AF{N B:G->Prop}{g u}{W}{s}{b}(i:gL N g W s b)(t:∀k,cF (g.γ s)=ae k->B k)(hγ:u.γ s=g.γ s)(hH:u.H=g.H)(l:gw (λp=>p∈b.al) g u):gL B u W s b:=by
 cases b with
 |box E sz cs=>
  let ⟨b,vs,rest,e,a,hr,v,hz,hc⟩:=i
  exact⟨b,vs,rest,rO,a,a4.mono l (λp d=>d) hr,t b e,I3,by rw[hγ];exact hc⟩
 |vec E T xs=>
  rcases i with⟨e,C⟩|⟨b,x,vs,e,a,z,A,D,K,v,hz⟩
  .exact .inl ⟨rO,C⟩
  .exact .inr ⟨b,x,vs,rO,a,z,A,D,by rw[hH];exact K,t b vd,I3⟩
 |dS f first caps=>
  let ⟨us,ws,e,z,A⟩:=i
  exact⟨us,ws,rO,dy.mono l (λp d=>eH _ d) z,dy.mono l (λp d=>gx _ d) A⟩
 |fz E cs=>
  let ⟨b,vs,rest,e,a,hr,v,hz⟩:=i
  exact⟨b,vs,rest,rO,a,a4.mono l (λp d=>d) hr,t b e,I3⟩
 |mp Q X xs=>
  let ⟨r,es,e,a,hr,v,hz⟩:=i
  exact⟨r,es,rO,a,iX.mono l (λp d=>d) hr,t r vd,I3⟩
 |it m n seen=>
  let ⟨r,b,e,P,a,v,hz⟩:=i
  exact⟨r,b,rO,by rw[l.γ m (by simp[aC.al])];exact P,a,t r vd,I3⟩
def gL.vM{known:G->Prop}{N:G->Prop}{g B}{W W'}{t}{b}(x:gL N g W t b)(u:gw known g B)(D:known t)(z:∀A∈b.al,known A)
  (l:∀k,cF (g.γ t)=ae k->W'.heap[k]? =W.heap[k]? /\∀a,B.H k a=g.H k a):gL N B W' t b:=by
 have hγ:=u.γ t D
 cases b with
 |box E sz cs=>
  let ⟨b,vs,rest,e,d,hr,p,s,hc⟩:=x
  exact⟨b,vs,rest,rO,by rw[(l b e).1];exact d,a4.mono u z hr,p,λa=>by rw[(l b e).2];exact s a,by rw[hγ];exact hc⟩
 |vec E T xs=>
  rcases x with⟨e,C⟩|⟨b,K,vs,e,C,d,P,X,c,p,s⟩
  .exact .inl ⟨rO,C⟩
  .have v:cF (g.γ t)=ae b:=by rw[e];rfl
   exact .inr ⟨b,K,vs,rO,by rw[(l b v).1];exact C,d,P,X,λi q=>de.mono u.H T _ _<|c i q,p,λa=>by rw[(l b v).2];exact s a⟩
 |dS f first caps=>
  let ⟨us,ws,e,d,P⟩:=x
  exact⟨us,ws,rO,dy.mono u (λA Q=>z A<|eH _ Q) d,dy.mono u (λA Q=>z A<|gx _ Q) P⟩
 |fz E cs=>
  let ⟨b,vs,rest,e,d,hr,p,s⟩:=x
  exact⟨b,vs,rest,rO,by rw[(l b e).1];exact d,a4.mono u z hr,p,λa=>by rw[(l b e).2];exact s a⟩
 |mp y F xs=>
  let ⟨r,es,e,d,hr,p,s⟩:=x
  have v:cF (g.γ t)=ae r:=vd
  exact⟨r,es,rO,by rw[(l r v).1];exact d,iX.mono u z hr,p,λa=>by rw[(l r v).2];exact s a⟩
 |it m n seen=>
  let ⟨r,b,e,w,d,p,s⟩:=x
  have v:cF (g.γ t)=ae r:=vd
  exact⟨r,b,rO,by rw[u.γ m (z m<|by simp[aC.al])];exact w,by rw[(l r v).1];exact d,p,λa=>by rw[(l r v).2];exact s a⟩
section
variable{P:bO}{tt:TT}
def aay{k:St}{s:dB}{d:G->Prop}{n:Kn}{g:Gh}{W:cA}{a:Act}(p:aM s d n g W a):∀(xs:E ff)(vs:E AV),kh k xs=ae vs->(∀f∈xs.flatMap (cH k),n f.1=ae f.2)->∀i∈cO vs,d i
 |[],vs,he,_,i,b=>by simp only[kh,ar]at he;subst he;cases b
 |x::xs,vs,he,hr,i,b=>by
  simp only[kh]at he;split at he
  .rename_i v l t m;simp only[ar]at he;subst he;simp only[cO,bg]at b;rcases b with b|b
   .exact sH p k x v t (λf cq=>hr f eK) i b
   .exact aay p xs l m (λf cq=>hr f<|by simp only[lQ,bg];exact .inr cq) i b
  .simp at he
def Tn{f}{vs}{fm T}{k k'}{a7}(hf:CX P f vs fm k a7 T k')(To:∀l∈cO vs,l<k)(oh:∀l b,L l fm=ae b->l<k/\∀z∈b.al,z<k)(I4:∀l∈a7.al,k<=l\/∃b,L l fm=ae b)
  (CJ:∀l b,L l T=ae b->L l fm=ae b\/∀z∈b.al,k<=z\/∃b,L z fm=ae b)
 {Fc}{Q:G->Prop} {σ}{g}{W}{a}(p:aM Fc Q σ g W a) (yh:∀l,(k<=l/\l<k')->¬Q l) {us}(Nj:fD g vs us) (hkv:∀l∈cO vs,Q l)
  (fS:∀l b,L l fm=ae b->σ (.m l)=ae (.b b)) {d}(hd:d<a.tmps.size):
  Calls P f us.toArray W (λcJ W'=>∃v g',cJ= .returned v/\aM Fc (λl=>Q l\/(k<=l/\l<k')) (bs σ<|(.s d,ae<|.v a7)::(pO T fm++kM k T)) g' W' (a.put (ae d) v)):=by
 have lV:=xh Nj
 let F:dB:={w0:=W,H0:=g.H,n:=Z vs,own:=λb=>∃l bb,L l fm=ae bb/\cF (g.γ l)=ae b,k0:=k,γ0:=g.γ}
 have hN:∀b,F.N b->b<W.heap.size->Fc.N b:=by
  intro b C V;rcases C with C|⟨l,bb,K,h2⟩
  .exact aJ C (Y:¬W.heap.size<=b)
  .exact((p.cE l bb<|fS l bb K).block h2).1
 have Tp:∀b,F.N b->Fc.N b:=by
  intro b C;rcases C with C|⟨l,bb,K,h2⟩
  .exact .inl<|bZ p.below.size C
  .exact((p.cE l bb<|fS l bb K).block h2).1
 have h0:aM F (·<k) (St.kn ⟨dG 0 vs,fm,0,[]⟩) g W (nC us):=by
  refine⟨by simp[nC,F,lV],J,?_,?_,?_,?_,?_,p.sub,⟨J,J,J,aN _,λ_ _ _=>rfl⟩,cD.refl _,λ_ _ _ _=>rfl,λl A=>⟨A,J⟩⟩
  .intro t v ht;simp only[St.kn,bS]at ht;let ⟨x,hx,he⟩:=ht;cases he;let ⟨_,u,hu,hr,_⟩:=lT vs us 0 Nj t v hx;have yI:us[t]? =ae u:=vr;simp only[nC,lR,vg,yI,sV];exact hr
  .intro l b C;simp only[St.kn,bS]at C;let ⟨x,hx,he⟩:=C;cases he;exact(p.cE l b<|fS l b hx).AF (λB lU=> .inr ⟨l,b,hx,lU⟩) J J ⟨cD.refl _,λ_ _=>rfl⟩
  .intro l pN b b' B C mU K h2;simp only[St.kn,bS]at C mU;let ⟨x,hx,he⟩:=C;let ⟨x',Tq,I5⟩:=mU;cases he;cases I5;exact p.inj l pN b b' B (fS l b hx) (fS pN b' Tq) K h2
  .intro key x hx l A;cases key with
   |s t=>
    simp only[St.kn,bS]at hx
    let ⟨y,hy,he⟩:=hx
    subst he
    let ⟨_,_,_,_,h6⟩:=lT vs us 0 Nj t y hy
    exact To l<|h6 l A
   |m z=>
    simp only[St.kn,bS]at hx
    let ⟨y,hy,he⟩:=hx
    subst he
    exact(oh z y hy).2 l A
  .intro l x hx;simp only[St.kn,bS]at hx;let ⟨y,hy,he⟩:=hx;exact(oh l y hy).1
 refine(hf.spec F g W us J lV h0).mono ?_
 rintro cJ W' ⟨v,g',rfl,K⟩
 refine⟨v,⟨g'.H,λl=>if k<=l/\l<k' then g'.γ l else g.γ l⟩,J,?_⟩
 generalize Ts:(⟨g'.H,λl=>if k<=l/\l<k' then g'.γ l else g.γ l⟩:Gh)=g2
 have S:g2.H=g'.H:=by rw[<-Ts]
 have aaA:∀l,g2.γ l=if k<=l/\l<k' then g'.γ l else g.γ l:=by rw[<-Ts];intro l;rfl
 have w:∀l,l<k'->g2.γ l=g'.γ l:=by
  intro l A;rw[aaA];split
  .rfl
  .rename_i hn;exact(K.fB l (Y:l<k)).2.symm
 have U:gw (·<k') g' g2:=⟨by rw[S];exact cD.refl _,λl A=>w l A⟩
 have D:gw Q g g2:=⟨by rw[S];exact K.le,λl A=>by rw[aaA,j];intro hc;exact yh l hc A⟩
 have aaB:∀l b,L l fm=ae b->Q l:=λl b C=>p.dI _ _<|fS l b C
 have CH:∀l,(k<=l\/∃b,L l fm=ae b)->l<k'->Q l\/(k<=l/\l<k'):=by
  intro l h h2;rcases h with h|⟨b,C⟩
  .exact .inr ⟨h,h2⟩
  .exact .inl<|aaB l b C
 have aaC:∀l∈a7.al,l<k':=λl A=>K.al (.s 0) (.v a7) (by simp[St.kn,L]) l A
 have c:∀B,B<W.heap.size->¬F.own B->W'.heap[B]? =W.heap[B]? /\∀o,g'.H B o=g.H B o:=λB M q=>⟨K.below.block B M q,λo=>K.fresh B o M q⟩
 have Tt:∀z,aE ((.s d,ae<|.v a7)::(pO T fm++kM k T)) (.m z)=if(L z fm).isSome then ae ((L z T).map .b)else if k<=z then(L z T).map (λb=>ae<|.b b)else none:=by
  intro z;simp only[aE,reduceCtorEq,bV,vL,I1,yH];by_cases h:(L z fm).isSome=af
  .simp[h]
  .simp[h]
 have E:∀z b,bs σ ((.s d,ae<|.v a7)::(pO T fm++kM k T)) (.m z)=ae (.b b)->(L z T=ae b/\z<k')\/(L z fm=none/\σ (.m z)=ae (.b b)/\Q z):=by
  intro z b C;simp only[bs,Tt]at C;by_cases h:(L z fm).isSome=af
  .simp only[h,cr,bS]at C;let ⟨x,hx,he⟩:=C;cases he;exact .inl ⟨hx,K.dI z (.b b)<|by simp[St.kn,hx]⟩
  .have q:L z fm=none:=by simpa using h
   simp only[h,bV,jh]at C;by_cases M:k<=z
   .simp only[M,cr]at C;cases hx:L z T with
    |none=>
     rw[hx]at C
     simp only[Option.map_none]at C
     exact .inr ⟨q,C,p.dI _ _ C⟩
    |some x=>
     rw[hx]at C
     simp only[xg,ar,Info.b.injEq]at C
     subst C
     exact .inl ⟨J,K.dI z (.b x)<|by simp[St.kn,hx]⟩
   .simp only[M,bV]at C;exact .inr ⟨q,C,p.dI _ _ C⟩
 have X:∀z b B,L z fm=none->σ (.m z)=ae (.b b)->cF (g.γ z)=ae B->B<W.heap.size/\¬F.own B:=by intro z b B h2 I h4;refine⟨((p.cE z b I).block h4).2,?_⟩;rintro⟨l,bb,h5,h6⟩;have:=p.inj z l b bb B I (fS l bb h5) h4 h6;subst this;rw[h2]at h5;cases h5
 refine⟨by simp[iq,p.size],p.defers,?_,?_,?_,?_,?_,by rw[S];exact K.sub,?_,by rw[S];exact p.le.trans K.le,?_,?_⟩
 .intro t u ht;simp only[bs,aE,vL,FD,yG]at ht;by_cases cJ:d=t
  .subst cJ;simp only[cr,ar,Info.v.injEq]at ht;subst ht;have hr:=K.dH 0 a7 (by simp[St.kn,L]);have hv:(a.put (ae d) v).tmps.getD d undef=v:=by simp[iq,hd]
   rw[hv];exact bf.mono U aaC (by simpa[nC]using hr)
  .have e':¬(Key.s d=Key.s t):=λh=>cJ eQ
   simp only[e',bV]at ht;have hv:(a.put (ae d) v).tmps.getD t undef=a.tmps.getD t undef:=by simp[iq,lM cJ]
   rw[hv];exact bf.mono D (λl A=>p.al _ _ ht l A)<|p.dH t u ht
 .intro z b C;rcases E z b C with⟨h2,I⟩|⟨h2,I,h4⟩
  .have AG:=K.cE z b I6;exact AG.AF (λB lU=>Tp B (AG.block lU).1) (w z I) S ⟨U.H,λi hi=>U.γ i<|K.al (.m z) (.b b) I6 i hi⟩
  .refine(p.cE z b I).vM D h4 (λi hi=>p.al _ _ I i hi)<|λB lU=>?_;let ⟨h5,h6⟩:=X z b B h2 I lU;rw[S];exact c B h5 h6
 .intro z j' b b' B C mU O R;rcases E z b C with⟨h2,I⟩|⟨h2,I,h4⟩<;>rcases E j' b' mU with⟨FE,CK⟩|⟨FE,CK,h4'⟩
  .rw[w z I]at O;rw[w j' CK]at R;exact K.inj z j' b b' B I6 (by simp[St.kn,FE]) O R
  .exfalso;rw[w z I]at O;rw[D.γ j' h4']at R;let ⟨h5,h6⟩:=X j' b' B FE CK R;rcases((K.cE z b I6).block O).1 with h7|h7
   .exact aJ h7 (Y:¬W.heap.size<=B)
   .exact h6 h7
  .exfalso;rw[w j' CK]at R;rw[D.γ z h4]at O;let ⟨h5,h6⟩:=X z b B h2 I O;rcases((K.cE j' b'<|by simp[St.kn,FE]).block R).1 with h7|h7
   .exact aJ h7 (Y:¬W.heap.size<=B)
   .exact h6 h7
  .rw[D.γ z h4]at O;rw[D.γ j' h4']at R;exact p.inj z j' b b' B I CK O R
 .intro key x hx l A;cases key with
  |s t=>
   simp only[bs,aE,vL,FD,yG]at hx
   by_cases cJ:d=t
   .subst cJ;simp only[cr,ar]at hx;subst hx;exact CH l (I4 l A)<|aaC l A
   .have e':¬(Key.s d=Key.s t):=λh=>cJ eQ
    simp only[e',bV]at hx;exact .inl<|p.al _ _ hx l A
  |m z=>
   cases x with
   |v u=>
    simp only[bs,Tt]at hx
    by_cases h:(L z fm).isSome=af
    .simp only[h,cr,bS]at hx;let ⟨_,_,he⟩:=hx;cases he
    .simp only[h,bV,jh]at hx;by_cases M:k<=z
     .simp only[M,cr]at hx;cases hy:L z T with
      |none=>rw[hy]at hx;exact .inl<|p.al (.m z) (.v u) FF l A
      |some y=>rw[hy]at hx;simp at hx
     .simp only[M,bV]at hx;exact .inl<|p.al _ _ hx l A
   |b b=>
    rcases E z b hx with⟨h2,I⟩|⟨h2,I,h4⟩
    .rcases CJ z b h2 with h7|h7
     .exact .inl<|p.al _ _ (fS z b h7) l A
     .exact CH l (h7 l A)<|K.al (.m z) (.b b) I6 l A
    .exact .inl<|p.al _ _ I l A
 .intro z x hx;simp only[bs,Tt]at hx;by_cases h:(L z fm).isSome=af
  .let ⟨b,C⟩:=I2.1 h;exact .inl<|aaB z b C
  .simp only[h,bV,jh]at hx;by_cases M:k<=z
   .simp only[M,cr]at hx;cases hy:L z T with
    |none=>rw[hy]at hx;exact .inl<|p.dI _ _ FF
    |some y=>exact .inr ⟨M,K.dI z (.b y)<|by simp[St.kn,hy]⟩
   .simp only[M,bV]at hx;exact .inl<|p.dI _ _ hx
 .refine⟨K.below.os.trans p.below.os,K.below.tape.trans p.below.tape,K.below.output.trans p.below.output,bZ p.below.size K.below.size,λB M q=>?_⟩;have V:B<W.heap.size:=fY M p.below.size;rw[<-p.below.block B M q];refine(c B V<|λho=>?_).1;rcases hN B (.inr ho) V with h2|h2
  .omega
  .exact q h2
 .intro B o M q;have V:B<W.heap.size:=fY M p.below.size;rw[S,(c B V<|λho=>?_).2 o]
  .exact p.fresh B o M q
  .rcases hN B (.inr ho) V with h2|h2
   .omega
   .exact q h2
 .intro l A;let ⟨h2,I⟩:=p.fB l A;exact⟨.inl h2,by rw[D.γ l h2];exact I⟩
def amm{f}{vs}{fm n}{k u}{x}(hf:CX P f vs fm k x n u)(z:xf k (cO vs)=af)(A:uh k fm=af)(B:AD k fm x.al=af)(D:AE k fm n=af)
 {Fc}{i:G->Prop} {H}{g}{W}{a}(p:aM Fc i H g W a) (t:∀l,(k<=l/\l<u)->¬i l) {us}(N:fD g vs us) (Q:∀l∈cO vs,i l)
  (T:∀l b,L l fm=ae b->H (.m l)=ae (.b b)) {d}(hd:d<a.tmps.size):
  Calls P f us.toArray W (λcJ W'=>∃v g',cJ= .returned v/\aM Fc (λl=>i l\/(k<=l/\l<u)) (bs H<|(.s d,ae<|.v x)::(pO n fm++kM k n)) g' W' (a.put (ae d) v)):=
 Tn hf (MN z) (λl b h=>Fk A l b h) (Tl B) (λl b h=> .inr (Tm D l b h).2) p t N Q T hd
end
def I7:Bool×E C->aw AV
 | (af,cs)=>ae<|.a cs
 | (ak,[b])=>ae<|.c b
 |_=>none
def sZ:E (Bool×E C)->aw (E AV)
 |[]=>ae []
 |s::a=>(match I7 s,sZ a with
  |some v,ae vs=>ae<|v::vs
  |_,_=>none)
def xn(a:St)(b:ff)(args:E ff):aw (FuncId×E AV×E G):=match kh a args with
 |some vs=>(match a.ev b with
  |some (.c<|.V<|.func (.func f) ⟨[]⟩ ⟨[]⟩)=>ae (f,vs,[])
  |some (.c<|.X id)=>(match L id a.mem with
   |some (.dS f first caps)=>(match sZ first,sZ caps with
    |some us,ae ws=>ae (f,us++(vs++ws),[id])
    |_,_=>none)
   |_=>none)
  |_=>none)
 |none=>none
def I9{g:Gh}:∀{k:E (Bool×E C)}{vs:E AV}{f:E aT},sZ k=ae vs->dy g k f->fD g vs f
 |[],vs,f,a,hr=>by simp only[sZ,ar]at a;subst a;exact hr
 |s::p,vs,f,a,hr=>by
  simp only[sZ]at a;split at a
  .rename_i v l b m;simp only[ar]at a;subst a;obtain⟨u,i,rfl,d,n⟩:=hr;refine⟨u,i,J,?_,I9 m n⟩;match s,b,d with
   | (af,cs),b,d=>simp only[I7,ar]at b;subst b;exact d
   | (ak,[c]),b,d=>simp only[I7,ar]at b;subst b;exact d
  .simp at a
def CL:∀{g:E (Bool×E C)}{vs:E AV},sZ g=ae vs->∀f∈cO vs,f∈dX g
 |[],vs,b,f,a=>by simp only[sZ,ar]at b;subst b;cases a
 |s::l,vs,b,f,a=>by
  simp only[sZ]at b;split at b
  .rename_i v i d k;simp only[ar]at b;subst b;simp only[cO,bg]at a;simp only[dX,bg];rcases a with a|a
   .left;match s,d with
    | (af,cs),d=>simp only[I7,ar]at d;subst d;exact a
    | (ak,[m]),d=>simp only[I7,ar]at d;subst d;simpa[b8,AV.al]using a
   .exact .inr<|CL k f a
  .simp at b
def fD.append{g:Gh}:∀{xs b:E AV}{d f:E aT},fD g xs d->fD g b f->fD g (xs++b) (d++f)
 |[],_,_,_,a,h2=>by simp only[fD]at a;subst a;exact h2
 |x::xs,_,_,_,a,h2=>by obtain⟨u,i,rfl,k,l⟩:=a;exact⟨u,i++_,J,k,fD.append l h2⟩
def Nk xs a:cO (xs++a)=cO xs++cO a:=by
 induction xs with
 |nil=>rfl
 |cons x xs b=>simp[cO,b]
section
variable{P:bO}{tt:TT}
def Nl{f}{g b}{W}(a:ob P f=af):(invoke (.fn (.func f) b) g).run P W= .ok (.enter f<|g++b) W:=by
 unfold ob at a;cases d:P.funcs[f]? with
 |none=>rw[d]at a;simp at a
 |some fn=>
  rw[d]at a
  simp only[cG,bne_iff_ne,ne_eq]at a
  have i:fn.body≠none:=by intro k;rw[k]at a;simp at a
  simp[invoke,callFunc,d,a.1,i]
def aaE{gP}{k:G->Prop}{N}{g}{W}{a}(b:aM gP k N g W a){n}{aF}{s}{args}{Q}(x:aF.op= .call ⟨.value s,args,Q⟩){f}{vs}{z}(d:xn n s args.toList=ae (f,vs,z))(A:ob P f=af)
  (l:∀i∈cH n s++args.toList.flatMap (cH n)++fK n z,N i.1=ae i.2):∃T:E aT,(execOp a.eval aF).run P W= .ok (.enter f T.toArray) W/\fD g vs T/\∀v∈cO vs,k v:=by
 unfold xn at d
 split at d
 .rename_i w B;have h:=Ct b n _ _ B (λi cq=>l i<|by simp only[bg];exact .inl<|.inr cq);have C:=aay b _ _ B (λi cq=>l i<|by simp only[bg];exact .inl<|.inr cq);have m:args.map a.eval=(args.toList.map a.eval).toArray:=Ar;split at d
  .rename_i q t;simp only[ar,bQ]at d;obtain⟨rfl,rfl,rfl⟩:=d;have K:a.eval s= .func (.func q) #[] #[]:=dJ b n s _ t (λi cq=>l i<|by simp only[bg];exact .inl<|.inl cq);refine⟨args.toList.map a.eval,?_,h,C⟩;rw[execOp,x];simp only[resolve,K,yJ,pure_bind,Nl A,m];simp
  .rename_i v t;split at d
   .rename_i q first r y
    split at d
    .rename_i T L D H;simp only[ar,bQ]at d;obtain⟨rfl,rfl,rfl⟩:=d;have K:a.eval s=g.γ v:=dJ b n s _ t (λi cq=>l i<|by simp only[bg];exact .inl<|.inl cq);have u:=yD (st:=n) (ids:=[v]) (σ:=N) (λi cq=>l i Nf) v ax _ y;let ⟨I,J,X,c,e⟩:=b.cE v _ u;refine⟨I++(args.toList.map a.eval++J),?_,(I9 D c).append<|h.append<|I9 H e,?_⟩
     .rw[execOp,x];simp only[resolve,K,X,yJ,pure_bind,Nl A,m];simp
     .intro j p;rw[Nk,Nk,bg,bg]at p;rcases p with p|p|p
      .exact b.al _ _ u j<|eH _<|CL D j p
      .exact C j p
      .exact b.al _ _ u j<|gx _<|CL H j p
    .simp at d
   .simp at d
  .simp at d
 .simp at d
def aaF{A}{i}{aF:a8}{d:G}(ho:A[i]? =ae aF)(hg:aF.guard=none)(hd:aF.dst=ae d){n}(dn:d<n){cf}{args}{kj}(bW:aF.op= .call ⟨.value cf,args,kj⟩)
 {u}{f}{vs:E AV} {B:E G} (ht:xn u cf args.toList=ae (f,vs,B)) {fm t:E (G×aC)} {k k':G} {a7:AV} (hf:CX P f vs fm k a7 t k') (To:xf k (cO vs)=af) (oh:uh k fm=af) (I4:AD k fm a7.al=af) (CJ:AE k fm t=af)
  (I':∀m b,L m fm=ae b->L m u.mem=ae b):
  tU P n A i (cH u cf++args.toList.flatMap (cH u)++fK u B++fK u (fm.map (·.1))) ((.s d,ae<|.v a7)::(pO t fm++kM k t)) (λm=>k<=m/\m<k'):=by
 intro F ly Q X I g W a K C aW D J
 let ⟨us,hex,H,c⟩:=aaE aW bW ht hf.call<|λq z=>D q<|eH _ z
 have N:=yD (st:=u) (ids:=fm.map (·.1)) (σ:=I)<|λq z=>D q<|gx _ z
 have w:∀{l:E (G×aC)}{m:G}{b:aC},L m l=ae b->m∈l.map (·.1):=by
  intro l;induction l with
  |nil=>intro m b h;simp[L]at h
  |cons p l M=>
   let ⟨j,x⟩:=p
   intro m b h
   simp only[L]at h
   split at h
   .rename_i e;simp[e]
   .exact kJ _<|M h
 have T:d<a.tmps.size:=nv
 have O:=amm hf To oh I4 CJ aW C H c (λm b y=>N m (w y) b<|I' m b y) T
 unfold wpOp
 simp only[ho,gZ,hg,cr]
 refine .inl ?_
 unfold pG
 rw[hex]
 simp only[oL,hd]
 refine O.mono ?_
 rintro e R ⟨v,S,rfl,U⟩
 exact J S R _ U
def amn{f}{vs}{a7}(p:aq P f vs a7)(hm:cO vs=[]) fm k:CX P f vs fm k a7 fm k:=by
 refine⟨p.call,aN _,?_⟩;intro F g W d hn U a;have q:fD g vs d:=by
  have D:∀(vs:E AV)(d:E aT)(i:G)(all:E aT),Z d=Z vs->(∀j,j<Z d->all[i+j]? =d[j]?)->(∀t v,L t (dG i vs)=ae v->bf g v (all.toArray.getD t undef))->fD g vs d:=by
   intro vs;induction vs with
   |nil=>intro d i all hl _ _;exact gA vj
   |cons x vs ih=>
    intro d i all hl B R
    cases d with
    |nil=>simp at hl
    |cons u d=>
     refine⟨u,d,J,?_,ih d (i+1) all vj ?_ ?_⟩
     .have V:=R i x (by simp[dG,L]);have S:=B 0 ax;simp only[jZ,n9]at S;simpa[S]using V
     .intro j hj;have:=B (j+1) rG;rw[(Y:i+1+j=i+(j+1))];simpa using this
     .intro t v K;refine R t v ?_;have ew:∀(l:E AV)(w:G),i<w->∀v,L i (dG w l)=ae v->False:=by
       intro l;induction l with
       |nil=>intro w _ v p;simp[dG,L]at p
       |cons y l ihl=>
        intro w N v p
        simp only[dG,L]at p
        split at p
        .omega
        .exact ihl (w+1) Y v p
      simp only[dG,L];split
      .rename_i e;subst e;exact(ew vs (i+1) Y v K).elim
      .exact K
  exact D vs d 0 d U (λj hj=>ax) (λt v K=>a.dH t v<|by simp[St.kn,K])
 refine(p.spec g.H W d a.sub<|q.iN hm).mono ?_;rintro e W' ⟨v,H',rfl,R,hle,I,M,n⟩;refine⟨v,⟨H',g.γ⟩,J,⟨J,a.defers,?_,?_,?_,?_,?_,M,?_,a.le.trans hle,?_,a.fB⟩⟩
 .intro t u K;simp only[St.kn,L,bS]at K;let ⟨x,A,he⟩:=K;cases he;split at A
  .rename_i e;subst e;cases A;have:=R.iN p.iN (cD.refl _) g.γ;simpa[nC]using this
  .cases A
 .intro z b c;have Q:St.kn ⟨dG 0 vs,fm,0,[]⟩ (.m z)=ae (.b b):=c;have C:=a.cE z b Q;refine C.vM (known:=(·<k)) ⟨hle,λ_ _=>rfl⟩ (a.dI z _ Q) (λj hj=>a.al _ _ Q j hj)<|λT lU=>?_;have N:=(C.block lU).2;exact⟨n.block T N,λo=>I T o N⟩
 .intro z pN b b' T c mU V S;exact a.inj z pN b b' T c mU V S
 .intro D x A z O;cases D with
  |m j=>exact a.al (.m j) x A z O
  |s t=>
   simp only[St.kn,L,bS]at A
   let ⟨y,hy,he⟩:=A
   subst he
   split at hy
   .cases hy;have:z∈a7.al:=O;rw[p.iN]at this;cases this
   .cases hy
 .intro z x A;exact a.dI z x A
 .exact⟨n.os.trans a.below.os,n.tape.trans a.below.tape,n.output.trans a.below.output,bZ a.below.size n.size,λT hk X=>by rw[n.block T (fY hk a.below.size)];exact a.below.block T hk X⟩
 .intro b o c X;show H' b o=F.H0 b o;rw[I b o (fY c a.below.size)];exact a.fresh b o c X
end
def jb{a:Type}(t:G)(v:a):E (G×a)->E (G×a)
 |[]=>[(t,v)]
 | (k,x)::b=>if k=t then(t,v)::b else(k,x)::jb t v b
def pQ{d:Type}(t a:G)(v:d):∀l:E (G×d),L a (jb t v l)=if t=a then ae v else L a l
 |[]=>by simp[jb,L]
 | (k,x)::f=>by
  simp only[jb];split
  .rename_i b;subst b;simp only[L];split<;>rfl
  .rename_i b;simp only[L];split
   .rename_i g;subst g;rw[j (λi=>b i.symm)]
   .exact pQ t a v f
def g6(P:bO)(n:G)(b:Array a8)(i:G)(l d:St)(k m:G)(p:Ks):Prop:=
 ∃f g,tU P n b i f g (λs=>k<=s/\s<m)/\(∀t∈f,l.kn t.1=ae t.2)/\d.kn=bs l.kn g/\k<=m/\(∀a∈dz f,a∈p.1)/\∀a∈fR g,a∈p.2
section
variable{P:bO}{tt:TT}
def g6.Tu{n}{a}{i}{p b d}{k}{s}(t:mu P n a i p b k s)(f:d.kn=b.kn):g6 P n a i p d k (k+1) s:=by let ⟨rd,wr,u,g,v,l,m⟩:=t;exact⟨rd,wr,u.Mf ⟨aN _,Y⟩,g,by rw[f,v],Y,l,m⟩
def g6.nD{n}{b}{i}{l d:St}{k}{m}{f}{g}(x:iJ P n b i f g k)(p:∀v∈f,l.kn v.1=ae v.2)(s:d.kn=bs l.kn g)(t:∀a∈dz f,a∈m.1)(u:∀a∈fR g,a∈m.2):g6 P n b i l d k (k+1) m:=
 ⟨f,g,x.Mf ⟨aN _,Y⟩,p,s,Y,t,u⟩
def g6.lift{n}{d}{i}{p}(A:d[i]? =ae p)(u:p.guard=none){v f}{k x}{z}(B:g6 P n #[p] 0 v f k x z):g6 P n d i v f k x z:=by let ⟨rd,wr,C,h2⟩:=B;refine⟨rd,wr,?_,h2⟩;intro F s Q b D g W a K l m H N;have t:=C F s Q b D g W a K l m H N;unfold wpOp at t⊢;simp only[A,gZ,u,cr];simp only[vg,n9,gZ,u,cr]at t;exact t
def g6.guard{n}{d}{i}{x}(ho:d[i]? =ae x){kL}{b}(hg:x.guard=ae (kL,b)){p}(hj:sQ d.toList kL=ae p){z t}(hb:L p z.sl=ae (.c<|.B b)){k k'}{A}
  (l:g6 P n #[{x with guard:=none}] 0 z t k k' A):g6 P n d i z t k k' (.s p::A.1,A.2):=by
 let ⟨rd,wr,y,C,D,hle,H,N⟩:=l
 refine⟨(.s p,.v<|.c<|.B b)::rd,wr,?_,?_,D,hle,λT r=>?_,N⟩
 .intro F X Q m E g W a K u f w G;have e:=y F X Q m E g W a K u f (λq cq=>w q eK) G;have I:=f.dH p (.c<|.B b)<|w (.s p,.v<|.c<|.B b) ax;have J:gZ x (yielded d a.tmps)=af:=by simp only[gZ,hg,E9 hj I,beq_self_eq_true]
  unfold wpOp at e⊢;simp only[ho,J,cr];simp only[vg,n9,gZ,cr]at e;exact e
 .intro q cq;rcases b9.1 cq with rfl|l
  .simp[St.kn,hb]
  .exact C q l
 .simp only[dz,gM,b9]at r;rcases r with l|l
  .simp[l]
  .exact kJ _<|H T l
def Tv(a:St) d x:(⟨jb d x a.sl,a.mem,a.nx,a.gd⟩:St).kn=bs a.kn [(.s d,ae<|.v x)]:=by
 funext key;cases key with
 |s t=>
  by_cases e:d=t
  .simp[St.kn,pQ,bs,aE,e]
  .simp[St.kn,pQ,bs,aE,e]
 |m id=>simp[St.kn,bs,aE]
def FG(a:St) d id x b:(⟨jb d x a.sl,(id,b)::a.mem,a.nx,a.gd⟩:St).kn=bs a.kn [(.s d,ae<|.v x),(.m id,ae<|.b b)]:=by
 funext key;cases key with
 |s t=>
  by_cases e:d=t
  .simp[St.kn,pQ,bs,aE,e]
  .simp[St.kn,pQ,bs,aE,e]
 |m j=>
  by_cases e:id=j
  .simp[St.kn,L,bs,aE,e]
  .simp[St.kn,L,bs,aE,e]
def aaG(a:St) d id x b:(⟨jb d x a.sl,jb id b a.mem,a.nx,a.gd⟩:St).kn=bs a.kn [(.s d,ae<|.v x),(.m id,ae<|.b b)]:=by
 funext key;cases key with
 |s t=>
  by_cases e:d=t
  .simp[St.kn,pQ,bs,aE,e]
  .simp[St.kn,pQ,bs,aE,e]
 |m j=>
  by_cases e:id=j
  .simp[St.kn,pQ,bs,aE,e]
  .simp[St.kn,pQ,bs,aE,e]
def amp(a:St) d id new x b(f:id≠new):(⟨jb d x a.sl,(new,b)::ud id a.mem,a.nx,a.gd⟩:St).kn=bs a.kn [(.s d,ae<|.v x),(.m new,ae<|.b b),(.m id,none)]:=by
 funext key;cases key with
 |s t=>
  by_cases e:d=t
  .simp[St.kn,pQ,bs,aE,e]
  .simp[St.kn,pQ,bs,aE,e]
 |m j=>
  by_cases e:new=j
  .simp[St.kn,L,bs,aE,e]
  .simp only[St.kn,L,bs,aE,e,reduceCtorEq,Key.m.injEq,bV,Cq];split<;>simp
end
abbrev Ja:=FuncId->E AV->E (G×aC)->G->aw (AV×E (G×aC)×G)
def Nm{a:Type}:E (G×a)->E (G×a)
 |[]=>[]
 | (t,v)::b=>jb t v b
def oU(s m:Bool)(a:St):St:=⟨cond s (Nm a.sl) a.sl,cond m (Nm a.mem) a.mem,a.nx,a.gd⟩
def aaH{b:Type}(a:G):∀l:E (G×b),L a (Nm l)=L a l
 |[]=>rfl
 | (t,v)::d=>by simp only[Nm,pQ,L]
def aaI s m st:(oU s m st).kn=st.kn:=by
 funext key;cases key with
 |s t=>cases s<;>simp[St.kn,oU,aaH]
 |m id=>cases m<;>simp[St.kn,oU,aaH]
def AH(d:TT)(g i:G):aw (G×TI):=match L g d,L i d with
 |some a,ae b=>(match a.kind,b.kind with
  | .sl E,.sl _=>(match L E d with
   |some f=>if 0<f.size then ae (E,f)else none
   |none=>none)
  |_,_=>none)
 |_,_=>none
def reach:G->E (G×aC)->E G->E (G×aC)->E (G×aC)
 |0,_,_,acc=>acc
 |_+1,_,[],acc=>acc
 |f+1,mem,id::todo,acc=>match L id acc with
  |some _=>reach f mem todo acc
  |none=>(match L id mem with
   |some b=>reach f mem (b.al++todo)<|(id,b)::acc
   |none=>reach f mem todo acc)
def Jb(a b d:G):Bool:=eL ((b+b/4+192)*d) 281474976710656&&eL b 16777216&&eL a 16777216
def FI(fm:E (G×aC)):E (G×aC)->E (G×aC)
 |[]=>[]
 | (id,b)::a=>match L id fm with
  |some _=>FI fm a
  |none=>(id,b)::FI fm a
def Tw(t:TT)(n k d:G)(x g:ff)(u v:G)(a:St):aw (St×G×Ks):=match AH t u v with
 |some (E,f)=>(match a.ev x,a.ev g with
  |some z,ae A=>(match vI a f.size A with
   |some (m,cs,is)=>if cs.all lz=af then(match z with
    | .c (.V<|.slice none 0 0)=>if m=0 then ae (⟨jb d (.c<|.V<|.slice none 0 0) a.sl,a.mem,a.nx,a.gd⟩,k+1,(bH [x,g]++cV is,[.s d]))
     else if Jb 0 m f.bytes then ae (⟨jb d (.c<|.L k 0 m none) a.sl,(k,.box E f.size cs)::a.mem,a.nx,a.gd⟩,k+1,(bH [x,g]++cV is,[.s d,.m k]))else none
    | .c (.L id off len<|ae p)=>(match L id a.mem with
     |some (.box i l b)=>if len+m<=p then
       (if off+(len+m)*f.size<=Z b then ae (⟨jb d (.c<|.L id off (len+m)<|ae p) a.sl,jb id (.box i l<|cK b cs<|off+len*f.size) a.mem,a.nx,a.gd⟩,k+1,(bH [x,g]++cV (id::is),[.s d,.m id]))else none)
      else(if off+len*f.size<=Z b/\Jb 0 (len+m) f.bytes=af then ae (⟨jb d (.c<|.L k 0 (len+m) none) a.sl,(k,.box E f.size<|(az off b).take (len*f.size)++cs)::a.mem,a.nx,a.gd⟩,k+1,(bH [x,g]++cV (id::is),[.s d,.m k]))else none)
     |_=>none)
    | .c (.L id _ len none)=>(match L id a.mem with
     |some (.box i l b)=>if i=E/\l=f.size/\len*f.size<=Z b/\id≠k/\Jb 0 (len+m) f.bytes=af then
       ae (⟨jb d (.c<|.L k 0 (len+m) none) a.sl,(k,.box E f.size<|c (len*f.size) b++cs)::ud id a.mem,a.nx,a.gd⟩,k+1,(bH [x,g]++cV (id::is),[.s d,.m k,.m id]))else none
     |_=>none)
    |_=>none)else none
   |none=>none)
  |_,_=>none)
 |none=>none
section
variable{P:bO}{tt:TT}
def Nn(f:cw P tt=af){x A B}{n}(d:AH tt x A=ae (B,n)):FB P x A B n.size n.bytes:=by
 unfold AH at d;split at d
 .rename_i a b H K;split at d
  .rename_i Q T p s;split at d
   .rename_i t g;split at d
    .rename_i i;simp only[ar,bQ]at d;obtain⟨rfl,rfl⟩:=d;have C:=(fb f H).kind;rw[p]at C;have D:=(fb f K).kind;rw[s]at D;let ⟨inf,k,l,m,z,u,v⟩:=(fb f g).info;have N:=(fb f g).Zv;refine⟨C,⟨_,D⟩,⟨inf,z,k,l,m,u,?_⟩,i⟩;have:Z z.cells.toList=Z (t.zero.map ZV.fC):=by rw[v]
     simp only[IN,c7]at this;omega
    .simp at d
   .simp at d
  .simp at d
 .simp at d
def Tx{a d b}(f:Jb a d b=af):(d+d/4+192)*b<=281474976710656/\d<=140737488355328:=by simp only[Jb,cG]at f;have g:=cQ f.1.1;have i:=cQ f.1.2;exact⟨g,Y⟩
def CM{b}{x d}{a}:∀f∈dz (cH b x++cH b d++fK b a),f∈bH [x,d]++cV a:=by
 intro k g;simp only[dz,fL,bg]at g;rcases g with(h|h)|h
 .exact eH _<|eP b [x,d] k uf
 .exact eH _<|eP b [x,d] k xc
 .exact gx _<|kg b a k h
def FJ{d}{x g}{b}:∀a∈cH d x++cH d g++fK d b,d.kn a.1=ae a.2:=by
 intro a f;rcases bg.1 f with h|h
 .rcases bg.1 h with h|h
  .exact eC _ x a h
  .exact eC _ g a h
 .exact k9 _ b a h
def amq(cC:cw P tt=af){n k d:G}(b:d<n){t:a8}(u:t.guard=none)(v:t.dst=ae d){x cN}{t1 t2:G}(f:t.op= .call ⟨.builtin .append,#[x,cN],#[t1,t2]⟩){l z}{k'}{ks}
  (a:Tw tt n k d x cN t1 t2 l=ae (z,k',ks)):g6 P n #[t] 0 l z k k' ks:=by
 have A:(#[t]:Array a8)[0]? =ae t:=rfl
 unfold Tw at a
 split at a
 .rename_i E r w;have B:=Nn cC w;split at a
  .rename_i L M C D;split at a
   .rename_i m O is H;split at a
    .rename_i g;split at a
     .split at a
      .rename_i q;subst q;simp only[ar,bQ]at a;obtain⟨rfl,rfl,rfl⟩:=a;exact .nD (al3 A u v b f B C D H g k) FJ (Tv l d _) CM nE
      .split at a
       .rename_i q p;let ⟨K,h2⟩:=Tx p;simp only[ar,bQ]at a;obtain⟨rfl,rfl,rfl⟩:=a;have:=aat A u v b f B C D (len:=0) (c:=0) (cb:=[]) (ib:=[]) (by rfl) H g Y (by simpa using K) rK k;simp only[fc,tZ]at this;exact .nD this FJ (FG l d k _ _) CM nE
       .simp at a
     .rename_i T N s c;split at a
      .rename_i F I Q W;split at a
       .rename_i e;split at a
        .rename_i i;simp only[ar,bQ]at a;obtain⟨rfl,rfl,rfl⟩:=a;exact .nD (al4 A u v b f B C D W H g e i k) FJ (aaG l d T _ _) CM nE
        .simp at a
       .rename_i J;split at a
        .rename_i X;let ⟨K,h2⟩:=Tx X.2;simp only[ar,bQ]at a;obtain⟨rfl,rfl,rfl⟩:=a;have:=aat A u v b f B C D (len:=s) (c:=c) (cb:=(az N Q).take<|s*r.size) (ib:=[T]) (by simp[Tf,W,X.1]) H g Y K h2 k;exact .nD this FJ (FG l d k _ _) CM nE
        .simp at a
      .simp at a
     .rename_i T N s;split at a
      .rename_i F I Q W;split at a
       .rename_i X;obtain⟨rfl,rfl,i,j,p⟩:=X;let ⟨K,h2⟩:=Tx p;simp only[ar,bQ]at a;obtain⟨rfl,rfl,rfl⟩:=a;exact .nD (al5 A u v b f B C D W H g i K h2 k) FJ (amp l d T k _ _ j) CM nE
       .simp at a
      .simp at a
     .simp at a
    .simp at a
   .simp at a
  .simp at a
 .simp at a
end
def No(fm a mem:E (G×aC)):E (G×aC):=match fm with
 |[]=>a++mem
 |fm=>a++FI fm mem
def Ty(g:Ja)(k d:G)(i:ff)(args:E ff)(b:St):aw (St×G×Ks):=match xn b i args with
 |some (f,vs,ids)=>(match reach 1000 b.mem (cO vs) []with
  |fm=>(match g f vs fm k with
   |some (r,a,l)=>if xf k (cO vs)&&uh k fm&&AD k fm r.al&&AE k fm a then
     ae (⟨jb d r b.sl,No fm a b.mem,b.nx,b.gd⟩,l,(bH (i::args)++cV (ids++fm.map (·.1)),.s d::(cV (fm.map (·.1))++cV (a.map (·.1)))))
    else none
   |none=>none))
 |none=>none
def FK{b:Type}(a:G):∀(l m:E (G×b)),L a (l++m)=match L a l with|some x=>ae x|none=>L a m
 |[],m=>rfl
 | (t,v)::l,m=>by
  simp only[lO,L];split
  .rfl
  .exact FK a l m
def Tz(fm:E (G×aC))(a:G):∀l:E (G×aC),L a (FI fm l)=if(L a fm).isSome then none else L a l
 |[]=>by simp[FI,L]
 | (id,b)::g=>by
  simp only[FI];split
  .rename_i x f;rw[Tz fm a g];by_cases d:id=a
   .subst d;simp[f]
   .simp[L,d]
  .rename_i f;simp only[L];by_cases d:id=a
   .subst d;simp[f]
   .simp only[d,bV];exact Tz fm a g
def amr(fm a mem:E (G×aC))(b:G):L b (No fm a mem)=match L b a with|some x=>ae x|none=>if(L b fm).isSome then none else L b mem:=by
 unfold No;split
 .rw[FK];cases L b a<;>simp[L]
 .rw[FK,Tz];cases L b a<;>rfl
def Np(mem:E (G×aC)):∀(f:G)(d:E G)(a:E (G×aC)),(∀i b,L i a=ae b->L i mem=ae b)->∀i b,L i (reach f mem d a)=ae b->L i mem=ae b
 |0,_,a,g=>by simpa[reach]using g
 |f+1,[],a,g=>by simpa[reach]using g
 |f+1,i::d,a,g=>by
  simp only[reach];split
  .exact Np mem f d a g
  .split
   .rename_i b l;refine Np mem f _ _ ?_;intro m n k;simp only[L]at k;split at k
    .rename_i p;subst p;cases k;exact l
    .exact g m n k
   .exact Np mem f d a g
section
variable{P:bO}{tt:TT}
def ams(f:St) d k n fm a(g:AE k fm a=af):(⟨jb d n f.sl,No fm a f.mem,f.nx,f.gd⟩:St).kn=bs f.kn ((.s d,ae<|.v n)::(pO a fm++kM k a)):=by
 funext key;cases key with
 |s t=>
  by_cases e:d=t
  .simp[St.kn,pQ,bs,aE,e]
  .simp[St.kn,pQ,bs,aE,e,vL,FD,yG]
 |m j=>
  simp only[St.kn,bs,aE,reduceCtorEq,bV,vL,I1,yH,amr]
  by_cases h:(L j fm).isSome=af
  .simp only[h,cr];cases L j a<;>rfl
  .simp only[h,bV,jh];cases p:L j a with
   |none=>by_cases i:k<=j<;>simp[i]
   |some b=>
    have i:k<=j:=by
     rcases(Tm g j b p).1 with l|⟨u,l⟩
     .exact l
     .rw[l]at h;simp at h
    simp[i]
def aaJ(a:E (G×aC)):∀fm:E (G×aC),fR (pO a fm)=cV (fm.map (·.1))
 |[]=>rfl
 | (id,b)::d=>by simp only[pO,fR,gM,cV];have:=aaJ a d;simp only[fR]at this;rw[this]
def TA(k:G):∀(fm:E (G×aC)),∀a∈fR (kM k fm),a∈cV (fm.map (·.1))
 |[],a,d=>by simp[kM,fR]at d
 | (id,b)::f,a,d=>by
  simp only[kM]at d;simp only[gM,cV,b9];split at d
  .simp only[fR,gM,b9]at d;rcases d with d|d
   .exact .inl d
   .exact .inr<|TA k f a d
  .exact .inr<|TA k f a d
def amt{t:Ja}(u:∀f vs fm k N g v,t f vs fm k=ae (N,g,v)->CX P f vs fm k N g v){n k d:G}(T:d<n){s:a8}(hg:s.guard=none)(hd:s.dst=ae d){z}{args}{W}(bW:s.op= .call ⟨.value z,args,W⟩){p A}{v}{ks}
  (h:Ty t k d z args.toList p=ae (A,v,ks)):g6 P n #[s] 0 p A k v ks:=by
 have w:(#[s]:Array a8)[0]? =ae s:=rfl
 unfold Ty at h
 split at h
 .rename_i f vs B y;generalize X:reach 1000 p.mem (cO vs) []=fm at h;simp only at h;split at h
  .rename_i N g M F;split at h
   .rename_i q;simp only[cG]at q;let ⟨⟨⟨c,e⟩,j⟩,C⟩:=q;simp only[ar,bQ]at h;obtain⟨rfl,rfl,rfl⟩:=h;have D:=u _ _ _ _ _ _ _ F;refine⟨_,_,aaF w hg hd T bW y D c e j C ?_,?_,ams p d k N fm g C,D.le,?_,?_⟩
    .rw[<-X];exact Np p.mem 1000 _ [] (λO b h=>by simp[L]at h)
    .intro Q H;simp only[bg]at H;rcases H with((h|h)|h)|h
     .exact eC _ z Q h
     .let ⟨x,_,h⟩:=iY.1 h;exact eC p x Q h
     .exact k9 _ B Q h
     .exact k9 _ _ Q h
    .intro i K;simp only[dz,fL,bg]at K;have I:∀(l m:E G),cV (l++m)=cV l++cV m:=by
      intro l m;induction l with
      |nil=>rfl
      |cons a l J=>simp only[lO,cV,J]
     rw[I];simp only[bg];rcases K with((h|h)|h)|h
     .exact .inl<|eP p (z::args.toList) i uf
     .exact .inl (eP p (z::args.toList) i<|by simp only[dz,lQ,fL,bg];exact .inr h)
     .exact .inr<|.inl<|kg p B i h
     .exact .inr<|.inr<|kg p _ i h
    .intro i K;simp only[fR,gM,fL,b9,bg]at K⊢;rcases K with h|h|h
     .exact .inl h
     .refine .inr<|.inl ?_;rw[<-aaJ g fm];exact h
     .exact .inr<|.inr<|TA k g i h
   .simp at h
  .simp at h
 .simp at h
end
def Jc(a:pE):E C->aw (E V)
 |[]=>ae []
 | .I k n::b=>if k=a then(match Jc a b with
  |some l=>ae<|n::l
  |none=>none)else none
 |_::_=>none
def Nq(a:Bool)(b:pE)(d:E C):aw (E V):=match Jc b d with
 |some l=>(match a,l with
  |true,l=>ae l
  |false,[n]=>ae [n]
  |false,_=>none)
 |none=>none
def uq(a:Bool)(b:pE)(k:E V):E (E C×E C)->aw (aw<|E C)
 |[]=>ae none
 |x::d=>match Nq a b x.1 with
  |some f=>if f=k then ae (ae x.2)else uq a b k d
  |none=>none
def uu(b:Bool)(d:pE)(k:E V)(a vc:E C):E (E C×E C)->aw (E<|E C×E C)
 |[]=>ae [(a,vc)]
 |x::f=>match Nq b d x.1 with
  |some g=>if g=k then ae ((a,vc)::f)else(match uu b d k a vc f with
   |some i=>ae<|x::i
   |none=>none)
  |none=>none
def aaK{g:Gh}{b:pE}:∀{d:E C}{l:E V}{vs:E aT},Jc b d=ae l->a4 g d vs->vs=l.map (Value.int b)
 |[],l,vs,a,hr=>by simp only[Jc,ar]at a;subst a;exact hr
 | .I k n::t,l,vs,a,hr=>by
  simp only[Jc]at a;split at a
  .rename_i f;split at a
   .rename_i u i;cases a;subst f;obtain⟨v,m,rfl,p,s⟩:=hr;cases p;simp[aaK i s]
   .cases a
  .cases a
 | .any::_,_,_,a,_=>by cases a
 | .B _::_,_,_,a,_=>by cases a
 | .V _::_,_,_,a,_=>by cases a
 | .S _ _::_,_,_,a,_=>by cases a
 | .P _ _::_,_,_,a,_=>by cases a
 | .X _::_,_,_,a,_=>by cases a
 | .Y _ _ _ _::_,_,_,a,_=>by cases a
 | .E _ _ _::_,_,_,a,_=>by cases a
 | .M _::_,_,_,a,_=>by cases a
 | .L _ _ _ _::_,_,_,a,_=>by cases a
 | .W _ _ _::_,_,_,a,_=>by cases a
def aaL{g}{b}{d}{l}{vs}(a:Nq ak b d=ae l)(f:a4 g d vs):∃n,l=[n]/\vs=[.int b n]:=by
 unfold Nq at a;split at a
 .rename_i k i;have:=aaK i f;split at a
  .contradiction
  .rename_i n _;cases a;exact⟨n,J,this⟩
  .cases a
 .cases a
def iX.length{g:Gh}{d f:Bool}:∀{n:G}{xs:E (E C×E C)}{a:E Nr},iX g d f n xs a->Z a=Z xs
 |_,[],_,b=>by simp only[iX]at b;subst b;rfl
 |_,_::_,_,⟨l,m,i,_,_,_,k⟩=>by subst i;simp[k.length]
def iX.snoc{g:Gh}{b d:Bool}{a:Nr}{x:E C×E C}(f:∃i,a.key=tT b i/\a4 g x.1 i)(k:∃vs,a.val=tT d vs/\a4 g x.2 vs):∀{n:G}{xs:E (E C×E C)}{l:E Nr},iX g b d n xs l->a.born=n+Z xs->iX g b d n (xs++[x]) (l++[a])
 |n,[],_,m,hb=>by simp only[iX]at m;subst m;exact⟨a,[],J,vp,f,k,J⟩
 |n,_::xs,_,⟨p,z,s,h2,t,u,v⟩,hb=>by subst s;exact⟨p,_,J,h2,t,u,iX.snoc f k v<|by simp only[iK]at hb;omega⟩
def aaM{g:Gh}{a:pE}{z:Bool}{m:V}:∀{n:G}{xs:E (E C×E C)}{d:E Nr},iX g ak z n xs d->∀{f:aw (E C)},uq ak a [m] xs=ae f->∀i:G,
  match f with
  |none=>vN (.int a) (.int a m) d i=ae none
  |some vc=>∃k vs,vN (.int a) (.int a m) d i=ae (ae (i+k,tT z vs))/\a4 g vc vs
 |n,[],d,A,f,hr,i=>by simp only[iX]at A;subst A;simp only[uq,ar]at hr;subst hr;rfl
 |n,x::xs,d,⟨B,l,N,h2,⟨ks,P,s⟩,⟨vs,Q,t⟩,T⟩,f,hr,i=>by
  subst N;simp only[uq]at hr;split at hr
  .rename_i k' W;obtain⟨p,rfl,rfl⟩:=aaL W s;have b:B.key= .int a p:=P;have D:TB (.int a) (.int a m) (.int a p)=ae (m==p):=by simp[TB]
   split at hr
   .rename_i K;cases K;cases hr;refine⟨0,vs,?_,t⟩;simp[vN,b,D,Q]
   .rename_i u;have X:(m==p)=ak:=by simp only[beq_eq_false_iff_ne,ne_eq];intro c;exact u (by rw[c])
    have H:vN (.int a) (.int a m) (B::l) i=vN (.int a) (.int a m) l (i+1):=by simp[vN,b,D,X]
    have v:=aaM T hr<|i+1;cases f with
    |none=>simp only at v⊢;rw[H];exact v
    |some vc=>
     obtain⟨k,o,w,y⟩:=v
     exact⟨k+1,o,by rw[H,w,(Y:i+1+k=i+(k+1))],y⟩
  .cases hr
def aaN{g:Gh}{a:pE}{A:Bool}{m:V}{kc vc:E C}{ks vs:E aT}(s:a4 g kc ks)(t:ks=[.int a m])(u:a4 g vc vs):∀{n:G}{xs b:E (E C×E C)}{k:E Nr},iX g ak A n xs k->uu ak a [m] kc vc xs=ae b->∀i:G,
  (vN (.int a) (.int a m) k i=ae none/\b=xs++[(kc,vc)])\/
  ∃l B f,vN (.int a) (.int a m) k i=ae (ae (i+l,B))/\k[l]? =ae f/\f.key= .int a m/\Z b=Z xs/\iX g ak A n b (k.modify l λf=>{f with key:= .int a m,val:=tT A vs})
 |n,[],b,k,Q,hr,i=>by simp only[iX]at Q;subst Q;simp only[uu,ar]at hr;subst hr;exact .inl ⟨J,J⟩
 |n,x::xs,b,k,⟨f,p,h1,h2,⟨dA,T,v⟩,⟨D,h4,H⟩,W⟩,hr,i=>by
  subst h1;simp only[uu]at hr;split at hr
  .rename_i k' hk;obtain⟨z,rfl,rfl⟩:=aaL hk v;have d:f.key= .int a z:=T;have X:TB (.int a) (.int a m) (.int a z)=ae (m==z):=by simp[TB]
   split at hr
   .rename_i o;cases o;cases hr;refine .inr ⟨0,f.val,f,by simp[vN,d,X],J,d,J,?_⟩;exact⟨_,p,J,h2,⟨ks,by rw[t];rfl,s⟩,⟨vs,J,u⟩,W⟩
   .rename_i K;have r:(m==z)=ak:=by simp only[beq_eq_false_iff_ne,ne_eq];intro y;exact K (by rw[y])
    have c:vN (.int a) (.int a m) (f::p) i=vN (.int a) (.int a m) p (i+1):=by simp[vN,d,X,r]
    split at hr
    .rename_i R N;cases hr;rcases aaN s t u W N (i+1)with⟨P,rfl⟩|⟨l,B,F,P,I,L,M,O⟩
     .exact .inl ⟨by rw[c];exact P,J⟩
     .refine .inr ⟨l+1,B,F,by rw[c,P,(Y:i+1+l=i+(l+1))],I,L,by simp[M],?_⟩;exact⟨f,_,J,h2,⟨_,T,v⟩,⟨D,h4,H⟩,O⟩
    .cases hr
  .cases hr
def aaO{f:Bool}{g:pE}{k:E V}:∀{xs:E (E C×E C)}{vc:E C},uq f g k xs=ae (ae vc)->∀d∈b8 vc,d∈lL xs
 |[],_,a,_,_=>by simp[uq]at a
 |x::i,vc,a,d,b=>by
  simp only[uq]at a;split at a
  .split at a
   .cases a;simp[lL,b]
   .simp[lL,aaO a d b]
  .cases a
def aaP{l:Bool}{m:pE}{k:E V}{i vc:E C}:∀{xs d:E (E C×E C)},uu l m k i vc xs=ae d->∀f∈lL d,f∈lL xs\/f∈b8 i\/f∈b8 vc
 |[],_,a,f,b=>by simp only[uu,ar]at a;subst a;simp only[lL,iO,bg]at b;exact .inr b
 |x::n,d,a,f,b=>by
  simp only[uu]at a;split at a
  .split at a
   .cases a;simp only[lL,bg]at b⊢;rcases b with a|a|a
    .exact .inr<|.inl a
    .exact .inr<|.inr a
    .exact .inl<|.inr<|.inr a
   .split at a
    .rename_i p g;cases a;simp only[lL,bg]at b⊢;rcases b with a|a|a
     .exact .inl<|.inl a
     .exact .inl<|.inr<|.inl a
     .rcases aaP g f a with a|a
      .exact .inl<|.inr<|.inr a
      .exact .inr a
    .cases a
  .cases a
def CN(g f:Bool)(d:E C)(b:Bool):aw AV:=match g with
 |true=>(match f,d with
  |true,d=>ae<|.t [(af,d),(ak,[.B b])]
  |false,[c]=>ae<|.t [(ak,[c]),(ak,[.B b])]
  |false,_=>none)
 |false=>(match f,d with
  |true,d=>ae<|.a d
  |false,[c]=>ae<|.c c
  |false,_=>none)
def aaQ{g}{k f}{l}{b}{v}{vs}(a:CN k f l b=ae v)(d:a4 g l vs):bf g v (if k then .tuple #[tT f vs,.bool b]else tT f vs):=by
 unfold CN at a;split at a
 .split at a
  .cases a;exact⟨[_,_],J,_,_,J,⟨vs,J,d⟩,_,_,J,J,J⟩
  .rename_i c;cases a;obtain⟨u,r,rfl,i,m⟩:=d;exact⟨[_,_],J,_,_,J,i,_,_,J,J,J⟩
  .cases a
 .split at a
  .cases a;exact⟨vs,J,d⟩
  .rename_i c;cases a;obtain⟨u,r,rfl,i,m⟩:=d;exact i
  .cases a
def amu{f g}{d}{b}{v}(a:CN f g d b=ae v):∀i∈v.al,i∈b8 d:=by
 unfold CN at a;split at a
 .split at a
  .cases a;simp[AV.al,dX,b8,C.al]
  .cases a;simp[AV.al,dX,b8,C.al]
  .cases a
 .split at a
  .cases a;simp[AV.al]
  .cases a;simp[AV.al,b8]
  .cases a
def amv{H}{W}(g:Sub H W){b}{i:Obj}(k:∀a,H b a=none):Sub H {W with heap:=W.heap.setIfInBounds b i}:=by
 intro f a v d;have l:=g f a v d;by_cases e:b=f
 .subst e;rw[k a]at d;cases d
 .simp only[World.cell?,lM e];exact l
section
variable{P:bO}{tt:TT}
def aaR{T}{i}{p:a8}{d:G}(ho:T[i]? =ae p)(hg:p.guard=none)(hd:p.dst=ae d){n}(dn:d<n){t}(bW:p.op= .makeMap t none) ka va new:
  iJ P n T i [] [(.s d,ae<|.v<|.c<|.X new),(.m new,ae<|.b<|.mp ka va [])] new:=by
 intro F ly Q B L g W a K z aW E I
 have w:(execOp a.eval p).run P W= .ok (.value<|.map<|ae W.heap.size) {W with heap:=W.heap.push<|.map #[] 0}:=by rw[execOp,bW];rfl
 unfold wpOp
 simp only[ho,gZ,hg,cr]
 refine .inl ?_
 unfold pG
 rw[w]
 simp only[oL,hd]
 have j:d<a.tmps.size:=nv
 let v:aT:= .map<|ae W.heap.size
 let D:Gh:=⟨g.H,λA=>if A=new then v else g.γ A⟩
 have N:D.γ new=v:=by simp[D]
 have q:gw B g D:=⟨cD.refl _,λA l=>by
  have:A≠new:=λe=>z<|e▸l
  simp[D,this]⟩
 have x:∀p,g.H W.heap.size p=none:=by
  intro p;cases hv:g.H W.heap.size p with
  |none=>rfl
  |some v=>
   have:=Cm W _<|aW.sub _ _ _ hv
   simp at this
 refine I D _ _<|aW.step (chg:=λ_=>False) (g':=D) ⟨q,λ_ _ _=>rfl,Ck aW.sub _,ax,λk r _=>EZ W _ k r,J,J,J⟩ _ new z oM aW.defers (λt f=>IX f) (λ_ h=>h.elim) ?_ ?_ ?_ ?_
 .intro t u f;simp only[aE]at f;split at f
  .rename_i e;simp only[Key.s.injEq]at e;simp only[ar,Info.v.injEq]at f;subst e;subst f;show _=D.γ new;rw[N];simp[iq,j,v]
  .simp at f
 .intro A b f;simp only[aE,reduceCtorEq,bV]at f;split at f
  .rename_i e;simp only[Key.m.injEq]at e;subst e;simp only[ar,Info.b.injEq]at f;subst f;refine⟨⟨W.heap.size,#[],N,ax,J,.inl aW.below.size,x⟩,.inr ⟨J,λk r=> .inl ?_⟩⟩;rw[N]at r;simp only[cF,v,ar]at r;omega
  .simp at f
 .intro k y f;simp only[aE]at f;split at f
  .simp only[ar]at f;subst f;intro A l;simp[Info.al,AV.al,C.al]at l;exact .inr l
  .split at f
   .simp only[ar]at f;subst f;intro A l;simp[Info.al,aC.al,lL]at l
   .simp at f
 .intro A y f;simp only[aE,reduceCtorEq,bV]at f;split at f
  .rename_i e;simp only[Key.m.injEq]at e;exact .inr e.symm
  .simp at f
def aaS(p:cw P tt=af){T}{i}{aF:a8}{d:G}(ho:T[i]? =ae aF)(hg:aF.guard=none)(hd:aF.dst=ae d){n}(dn:d<n){t}{x cN}{ok}(bW:aF.op= .lookup t x cN ok)
 {D}{H}{jL:pE} {m:V} (hx:D.ev x=ae (.c<|.X H)) (hy:D.ev cN=ae (.c<|.I jL m)) {kt vt:G} {ti ki N:TI} (oP:L t tt=ae ti) (hk:ti.kind= .map kt vt) (CO:L kt tt=ae ki) (lU:ki.kind= .int jL) (vO:L vt tt=ae N)
  {xs:E (E C×E C)} (hl:L H D.mem=ae (.mp ak N.agg xs)) {a7:aw (E C)} (hr:uq ak jL [m] xs=ae a7) {v:AV} (hv:CN ok N.agg (a7.getD<|N.zero.map ZV.qm) a7.isSome=ae v) (new:G):
  iJ P n T i ([x,cN].flatMap (cH D)++fK D [H]) [(.s d,ae<|.v v)] new:=by
 refine tX ho hg hd dn _ v new ?_
 intro F S σ g W a f K
 have l:=dJ f D x _ hx<|λU cq=>K U eK
 have u:=dJ f D cN _ hy<|λU cq=>K U eK
 have e:σ (.m H)=ae (.b<|.mp ak N.agg xs):=K (.m H,.b<|.mp ak N.agg xs) rB
 let ⟨b,es,Y,hh,Z,hN,hz⟩:=f.cE H _ e
 have l:a.eval x=g.γ H:=l
 have u:a.eval cN= .int jL m:=u
 rw[Y]at l
 have hu:=(fb p oP).kind
 rw[hk]at hu
 have A:=(fb p CO).kind
 rw[lU]at A
 have R:=aaM Z hr 0
 refine⟨?_,?_⟩
 .intro j hj;have h1:=amu hv j hj;cases a7 with
  |none=>
   rw[Option.getD_none,MF]at h1
   cases h1
  |some vc=>exact f.al _ _ e j<|aaO hr j h1
 .have h:=amw (w:=W) A (k:= .int jL m) J es.isEmpty 9999;cases a7 with
  |none=>
   have Q:=TC (P:=P) (w:=W) A R
   let ⟨inf,B,_,_,z,M,yq⟩:=(fb p vO).info
   have O:=(fb p vO).zag _ _ B M
   have FM:(zeroValue vt).run P W= .ok z W:=by simp[zeroValue,typeInfo,B,M]
   refine⟨_,?_,aaQ hv<|Ao g N.zero⟩
   rw[execOp,bW]
   simp only[Instr.lookup,l,u,dq,run_underlying hu,dM,TD hh,Cf,h,Q,FM,O]
   rfl
  |some vc=>
   obtain⟨j,ws,R,H8⟩:=R
   have Q:=TC (P:=P) (w:=W) A R
   refine⟨_,?_,aaQ hv H8⟩
   rw[execOp,bW]
   simp only[Instr.lookup,l,u,dq,run_underlying hu,dM,TD hh,Cf,h,Q]
   rfl
def aaT(cC:cw P tt=af){ops}{i}{aF}(ho:ops[i]? =ae aF)(hg:aF.guard=none)(hd:aF.dst=none){n}{t:TypeId}{x cN z}(bW:aF.op= .mapUpdate t x cN z)
 {D}{H}{p}{m:V} {u:AV} {va:Bool} {vc:E C} (hx:D.ev x=ae (.c<|.X H)) (hy:D.ev cN=ae (.c<|.I p m)) (FM:D.ev z=ae u) (Fv:rJ u=ae (va,vc)) {kt vt:G} {ti ki:TI} (oP:L t tt=ae ti) (hk:ti.kind= .map kt vt) (CO:L kt tt=ae ki) (lU:ki.kind= .int p)
  {xs N:E (E C×E C)} (hl:L H D.mem=ae (.mp ak va xs)) (hp:uu ak p [m] [.I p m] vc xs=ae N) (new:G):
  iJ P n ops i ([x,cN,z].flatMap (cH D)++fK D [H]) [(.m H,ae<|.b<|.mp ak va N)] new:=by
 intro F ly Q known σ g W a K yh f v hK
 have A:=dJ f D x _ hx<|λR cq=>v R eK
 have T:=dJ f D cN _ hy<|λR cq=>v R eK
 have hrz:=dJ f D z _ FM<|λR cq=>v R eK
 have hmz:=sH f D z _ FM<|λR cq=>v R eK
 have s:σ (.m H)=ae (.b<|.mp ak va xs):=v (.m H,.b<|.mp ak va xs) rB
 let ⟨b,es,S,hh,U,hN,hz⟩:=f.cE H _ s
 have A:a.eval x=g.γ H:=A
 have T:a.eval cN= .int p m:=T
 rw[S]at A
 have hu:=(fb cC oP).kind
 rw[hk]at hu
 have r:=(fb cC CO).kind
 rw[lU]at r
 have Jd:∃vs,a.eval z=tT va vs/\a4 g vc vs:=by
  have:=SW Fv hrz;cases va with
  |true=>exact this
  |false=>
   match vc,this with
   |[c],h=>exact⟨[a.eval z],J,_,_,J,h,J⟩
   |[],h=>exact h.elim
   |_::_::_,h=>exact h.elim
 let ⟨vs,hvz,Ns⟩:=Jd
 have Nt:=amw (w:=W) r (k:= .int p m) J ak 9999
 have hlen:=U.length
 have FN:∃M,(execOp a.eval aF).run P W= .ok .skip {W with heap:=W.heap.setIfInBounds b<|.map M<|Z N}/\iX g ak va 0 N M.toList:=by
  rcases aaN (g:=g) (kc:=[.I p m]) (ks:=[.int p m]) ⟨_,_,J,J,J⟩ J Ns U hp 0 with⟨hf,rfl⟩|⟨j,w,e,hf,he,rP,hle,B⟩
  .have Y:=TC (P:=P) (w:=W) r hf;refine⟨es.push ⟨.int p m,a.eval z,Z xs⟩,?_,?_⟩
   .rw[execOp,bW];simp only[Instr.mapUpdate,A,T,dq,run_underlying hu,dM,TD hh,Cf,Nt,Y,amz _ hh,iL,oV]
   .rw[Array.toList_push];exact iX.snoc (x:=([.I p m],vc)) ⟨[.int p m],J,_,_,J,J,J⟩ ⟨vs,hvz,Ns⟩ U ax
  .have Y:=TC (P:=P) (w:=W) r hf;have I5:es[j]? =ae e:=by simpa using he
   have vK:=MapKept.run_keyThatStays (P:=P) (w:=W) (d:= .int p) (k:= .int p m) J;refine⟨es.modify j λe=>{e with key:= .int p m,val:=a.eval z},?_,by rw[Array.toList_modify,hvz];exact B⟩;rw[execOp,bW];simp only[Instr.mapUpdate,A,T,dq,run_underlying hu,dM,TD hh,Cf,Nt,Y,fc,I5,xg,sV,rP,vK,amz _ hh,hle]
 let ⟨M,hex,B⟩:=FN
 unfold wpOp
 simp only[ho,gZ,hg,cr]
 refine .inl ?_
 unfold pG
 rw[hex]
 simp only[oL,hd,iq]
 have hb:b<W.heap.size:=(fJ.1 hh).1
 refine hK g _ a<|f.step (chg:=λj=>j=H) (g':=g) ⟨⟨cD.refl _,λ_ _=>rfl⟩,λ_ _ _=>rfl,amv f.sub hz,ax,?_,J,J,J⟩ _ new yh J f.defers (λ_ _=>rfl) ?_ ?_ ?_ ?_ ?_
 .intro k hk ew;have:b≠k:=λe=>ew H J (by rw[S,e];rfl)
  exact lM this
 .intro j O;subst O;exact⟨yp,_,s⟩
 .intro t' v' ht;simp[aE]at ht
 .intro j bk O;simp only[aE]at O;split at O
  .rename_i e;simp only[Key.m.injEq]at e;subst e;simp only[ar,Info.b.injEq]at O;subst O;exact⟨⟨b,M,S,by simp[hb],B,hN,hz⟩,.inl ⟨f.dI _ _ s,_,s⟩⟩
  .simp at O
 .intro k z' l;simp only[aE]at l;split at l
  .simp only[ar]at l;subst l;intro j O;rcases aaP hp j O with h|h|h
   .exact .inl<|f.al _ _ s j h
   .simp[b8,C.al]at h
   .refine .inl<|hmz j ?_;rw[<-Ni Fv];exact h
  .simp at l
 .intro j z' l;simp only[aE]at l;split at l
  .rename_i e;simp only[Key.m.injEq]at e;subst e;exact .inl<|f.dI _ _ s
  .simp at l
end
end Go.El
