/- Own work; no condition. -/
import Derived.KernelRfl
import Derived.Deep.DeepAppendWide
import Derived.Deep.AppendSrc
import Derived.Test.YtceihkmakfdcnaaGreatC1
set_option linter.all false
set_option maxHeartbeats 16000000
set_option maxRecDepth 100000
open Array renaming range->abk
open Bool renaming true->ae,false->ah
open Go renaming Program->bW,Operand->fE,Value->aT,World->cJ,Oper->a8,ResultVar->A9,TypeId->eI
open Go.Act renaming put->iK
open Go.Builtin renaming firstCells->Bf,append_->zf
open Go.El renaming iJ->o
open Go.Exit renaming inBlock->F8
open Go.Instr renaming build->Jq,buildSlice->JC
open Go.Oper renaming wp->p',upon->ph
open Go.Region renaming wanted->iv,binds->vP
open Go.Result renaming andThen->eo
open Go.Sem renaming run_bind->dH
open Go.World renaming block_lt_of_cell?->C5
open List renaming length->Z,getD->I,take->r,drop->az,range->bJ,replicate->bx,getElem_toArray->ang
open Nat renaming testBit->oH,ble->fa,blt->dZ
open Option renaming some->ad
open _root_ renaming Nat->G,List->E,Option->aw
namespace Go.El
open Go Go.RowKit
section
variable{P:bW}{tt:TT}{n:G}
def C9(a:E (G×G))(b:St):E C->E (G×fE)->aw (E C)
 |cs,[]=>ad cs
 |cs,(i,x)::d=>(match a[i]?,b.ev x with
  |some (off,sz),ad v=>(match l3 v with
   |some us=>if Z us=sz/\off+sz<=Z cs/\us.all lO=ae then C9 a b (cR cs us off) d else none
   |none=>none)
  |_,_=>none)
def am3 us:∀(vs:E aT)(a k:G),a+k+Z us<=Z vs->(us.zipIdx k).foldl (λ(b:Array aT)(p:aT×G)=>b.setIfInBounds (a+p.2) p.1) vs.toArray=(cR vs us<|a+k).toArray:=by
 induction us with
 |nil=>intro vs a k _;simp[cR]
 |cons u us d=>
  intro vs a k h
  simp only[jg]at h
  simp only[List.zipIdx_cons,Ns]
  have:vs.toArray.setIfInBounds (a+k) u=(vs.set (a+k) u).toArray:=au
  rw[this,d (vs.set (a+k) u) a (k+1) cd]
  rw[(Y:a+(k+1)=a+k+1),aa1 _ _ _ _ Y]
def Jo{hZ:dO}{d:G->Prop}{σ:Kn}{g:Gh}{W:cJ}{a:Act}(A:aR hZ d σ g W a)(Q:St)(pl:E (G×G))(k:G->aw (G×G))(T:∀i x,pl[i]? =ad x->k i=ad x):
  ∀(b:E (G×fE))(u l:E C)(vs:E aT),C9 pl Q u b=ad l->a6 g u vs->(∀p∈b,∀kx∈cQ Q p.2,σ kx.1=ad kx.2)->(∀z∈b6 u,d z)->
   ∃N:E aT,Instr.fill k vs.toArray (b.map λp=>(p.1,a.eval p.2))=ad N.toArray/\a6 g l N/\Z N=Z vs/\∀z∈b6 l,d z
 |[],u,l,vs,s,hr,_,hm=>by simp only[C9,aq]at s;subst s;exact⟨vs,J,hr,J,hm⟩
 | (i,x)::b,u,l,vs,s,hr,B,hm=>by
  simp only[C9]at s;split at s
  .rename_i f sz v hp hv;split at s
   .rename_i N m;split at s
    .rename_i D;let ⟨h1,h2,h3⟩:=D;have X:=tx A Q x v hv<|B (i,x) au;let ⟨ws,o,j⟩:=No m (dY A Q x v hv<|B (i,x) au)<|λc r=>nY.1 h3 c r;have R:=hr.length;have S:=j.length;have H:∀z∈b6 (cR u N f),d z:=by
      intro z w;rcases FT _ _ _ z w with A|A
      .exact hm z A
      .refine X z ?_;cases v with
       |c q=>simp only[l3,aq]at m;subst m;simpa[b6,AV.ak]using A
       |a q=>simp only[l3,aq]at m;subst m;exact A
       |t q=>simp[l3]at m
     let ⟨U,I,L,M,O⟩:=Jo A Q pl k T b (cR u N f) l (cR vs ws f) s (hr.cR j f) (λp hp=>B p<|by simp[hp]) H;refine⟨U,?_,L,by rw[M,y5 _ _ _ Y],O⟩;simp only[gX,Instr.fill,T i _ hp,o];have r:¬((ws.toArray.size≠sz||decide (f+ws.toArray.size>vs.toArray.size))=ae):=by simp;omega
     rw[y (by simpa using r)];have:=am3 ws vs f 0 Y;simp only[jZ]at this;have e:ws.toArray.zipIdx.foldl (λ(u:Array aT)(p:aT×G)=>u.setIfInBounds (f+p.2) p.1) vs.toArray=(cR vs ws f).toArray:=by rw[<-this];simp
     rw[<-I];congr 1
    .simp at s
   .simp at s
  .simp at s
def Nt(a:TI):E (G×G):=a.fields.map λf=>(f.1,f.2.1)
def TW(tt:TT)(f:St)(t:G)(b:E (G×fE)):aw AV:=match o t tt with
 |some d=>(match d.kind with
  | .st=>(match C9 (Nt d) f (d.zero.map ZV.qP) b with|some cs=>ad (.a cs)|none=>none)
  |_=>none)
 |none=>none
def Nu(a:E ZV):b6 (a.map ZV.qP)=[]:=by
 induction a with
 |nil=>rfl
 |cons z a b=>simp[gX,b6,b];cases z<;>rfl
def am4(s:True){d}{a:Array Field}(g:uN P d.fields a.toList=ae) W:∃iM:Array (G×G),(a.mapM λf=>(do pure (f.offset,<-sizeOf f.type):Go.Sem (G×G))).run P W= .ok iM W/\∀(i:G)(x:G×G),(Nt d)[i]? =ad x->iM[i]? =ad x:=by
 have m:∀(l:E (G×G×Bool))(a:E Field),uN P l a=ae->(a.mapM λf=>(do pure (f.offset,<-sizeOf f.type):Go.Sem (G×G))).run P W= .ok (l.map λf=>(f.1,f.2.1)) W:=by
  intro l;induction l with
  |nil=>intro a h;cases a with
   |nil=>simp[pure]
   |cons f a=>simp[uN]at h
  |cons p l t=>
   intro a h
   let ⟨off,sz,B⟩:=p
   cases a with
   |nil=>simp[uN]at h
   |cons f a=>
    let ⟨C,b,u,⟨i,v,z⟩,_⟩:=Nd h (k:=0) J
    simp only[oG,aq]at b
    subst b
    simp only[uN,cP]at h
    have:=t a h.2
    rw[Jp]
    simp only[dH,run_sizeOf v,eo,Sem.run_pure,this,z,u,gX]
 refine⟨(Nt d).toArray,?_,λi x h=>fg⟩;have A:a.mapM (λf=>(do pure (f.offset,<-sizeOf f.type):Go.Sem (G×G)))=Functor.map List.toArray (a.toList.mapM<|λf=>(do pure (f.offset,<-sizeOf f.type):Go.Sem (G×G))):=by simp[Array.mapM_eq_mapM_toList]
 rw[A];simp only[map_eq_pure_bind,dH,m d.fields a.toList g,eo];rfl
def am5(m:cE P tt=ae){u}{i}{l:a8}{d:G}(ho:u[i]? =ad l)(hg:l.guard=none)(hd:l.dst=ad d){n}(N:d<n){t}{b}(b9:l.op= .build t b)
 {Q}{v}(f:TW tt Q t b.toList=ad v) new:jd P n u i (qe Q l.op) [(.s d,ad<|.v v)] new:=by
 refine uO ho hg hd N _ v new ?_
 intro F T U g W a A X
 unfold TW at f
 split at f
 .rename_i K B;split at f
  .rename_i I;split at f
   .rename_i L c;simp only[aq]at f;subst f;have E:=(fw m B).kind;rw[I]at E;let ⟨fs,hu,e⟩:=E;let ⟨inf,xG,_,_,z,hz,y8⟩:=(fw m B).info;let ⟨iM,C,D⟩:=am4 (P:=P) j e W;let ⟨us,h,jN,M,q⟩:=Jo A Q (Nt K) (iM[·]?) D b.toList (K.zero.map ZV.qP) L (K.zero.map ZV.fU) c (A4 g _) (λp O R r=>X R<|by rw[b9];refine js.2 ⟨p.2,?_,r⟩;simp only[Op.operands];simp only[kd];exact⟨p,O,J⟩) (by rw[Nu];simp);refine⟨q,.agg us.toArray,?_,us,J,jN⟩;have H:z.cells=(K.zero.map ZV.fU).toArray:=FX;have k:execOp a.eval l=(do pure (.value<|<-Jq t (b.map λ(i,x)=>(i,a.eval x)))):=xE;have w:(b.map λ(i,x)=>(i,a.eval x)).toList=b.toList.map λp=>(p.1,a.eval p.2):=au
    have y:(zeroValue t).run P W= .ok z W:=TX;have S:(Jq t<|b.map λ(i,x)=>(i,a.eval x)).run P W= .ok (.agg us.toArray) W:=by unfold Jq;rw[dH,y];simp only[eo];rw[dH,run_underlying hu];simp only[eo];rw[dH,C];simp only[eo,w,H,h];rfl
    rw[k,dH,S];rfl
   .simp at f
  .simp at f
 .simp at f
end
section
variable{P:bW}{tt:TT}
def eQ st x:∀a∈cQ st x,st.kn a.1=ad a.2:=by
 intro a h;cases x with
 |tmp t=>
  simp[cQ]at h
  split at h
  next v b=>simp[iW]at h;subst h;simp[St.kn,b]
  .simp at h
 |_=>simp[cQ]at h
def ly st ids:∀a∈fZ st ids,st.kn a.1=ad a.2:=by
 intro a h;let ⟨id,_,h⟩:=js.1 h;split at h
 next b d=>simp[iW]at h;subst h;simp[St.kn,d]
 .simp at h
def tF st(op:Op):∀a∈qe st op,st.kn a.1=ad a.2:=by intro a h;let ⟨x,_,h⟩:=js.1 h;exact eQ st x a h
def St.put(a:St)(d:G)(x:AV):St:={a with sl:=(d,x)::a.sl}
def St.pm(a:St)(d:G)(b:aA):St:={a with mem:=(d,b)::a.mem}
def uU{a:Type}(t:G):E (G×a)->E (G×a)
 |[]=>[]
 | (k,x)::b=>if k=t then uU t b else(k,x)::uU t b
def St.del(a:St)(d:G):St:={a with sl:=uU d a.sl}
def C'{f:Type}(t k:G):∀l:E (G×f),o k (uU t l)=if t=k then none else o k l
 |[]=>by simp[uU,o]
 | (g,x)::d=>by
  simp[uU];split
  .rename_i a;subst a;rw[C' g k d];split
   .rfl
   next b=>simp[o,b]
  .rename_i a;simp[o];split
   next i=>subst i;rw[y (λb=>a b.symm)]
   .exact C' t k d
def qR(a:St) d x:(a.put d x).kn=bw a.kn [(.s d,ad<|.v x)]:=by
 funext k;cases k with
 |s t=>
  by_cases e:d=t
  .simp[St.kn,St.put,o,bw,aD,e]
  .simp[St.kn,St.put,o,bw,aD,e]
 |m id=>simp[St.kn,St.put,bw,aD]
def Nv(a:St) d x:(a.pm d x).kn=bw a.kn [(.m d,ad<|.b x)]:=by
 funext k;cases k with
 |s t=>simp[St.kn,St.pm,bw,aD]
 |m id=>
  by_cases e:d=id
  .simp[St.kn,St.pm,o,bw,aD,e]
  .simp[St.kn,St.pm,o,bw,aD,e]
def FY(a:St) d id x b:((a.pm id b).put d x).kn=bw a.kn [(.s d,ad<|.v x),(.m id,ad<|.b b)]:=by
 funext k;cases k with
 |s t=>
  by_cases e:d=t
  .simp[St.kn,St.put,St.pm,o,bw,aD,e]
  .simp[St.kn,St.put,St.pm,o,bw,aD,e]
 |m j=>
  by_cases e:id=j
  .simp[St.kn,St.put,St.pm,o,bw,aD,e]
  .simp[St.kn,St.put,St.pm,o,bw,aD,e]
def aa7(a:St) d:(a.del d).kn=bw a.kn [(.s d,none)]:=by
 funext k;cases k with
 |s t=>
  by_cases e:d=t
  .simp[St.kn,St.del,C',bw,aD,e]
  .simp[St.kn,St.del,C',bw,aD,e]
 |m id=>simp[St.kn,St.del,bw,aD]
abbrev Ks:=E Key×E Key
def bN:E fE->E Key
 |[]=>[]
 | .tmp t::a=> .s t::bN a
 |_::a=>bN a
def da:E G->E Key
 |[]=>[]
 |id::a=> .m id::da a
def ff(b:St):∀(xs:E fE),∀k∈dL (xs.flatMap<|cQ b),k∈bN xs
 |[],k,a=>by simp[dL]at a
 |x::xs,k,a=>by
  simp only[dL,l6,gf,bl]at a;rcases a with a|a
  .cases x with
   |tmp t=>
    simp only[cQ]at a
    split at a
    .simp at a;subst a;simp[bN]
    .simp at a
   |_=>simp[cQ]at a
  .have:=ff b xs k a;cases x<;>simp[bN,this]
def kE(d:St):∀(b:E G),∀k∈dL (fZ d b),k∈da b
 |[],k,a=>by simp[dL,fZ]at a
 |id::b,k,a=>by
  simp only[dL,fZ,l6,gf,bl]at a;rcases a with a|a
  .split at a
   .simp at a;subst a;simp[da]
   .simp at a
  .have:=kE d b k a;simp[da,this]
def FZ(tt:TT)(n a:G)(i:aw G)(op:Op):St->aw (St×Pr×Ks)
 |⟨sl,mem,nx,gd⟩=>match i,op with
 |some d,.load t x=>if d<n then(match St.ev ⟨sl,mem,nx,gd⟩ x with
   |some v=>(match Jg tt ⟨sl,mem,nx,gd⟩ t v with
    |some (b,p,ids)=>ad (⟨(d,b)::sl,mem,nx,gd⟩,p,(bN [x]++da ids,[.s d]))
    |none=>none)
   |none=>none)else none
 |none,.store t x b=>(match St.ev ⟨sl,mem,nx,gd⟩ x,St.ev ⟨sl,mem,nx,gd⟩ b with
   |some (.c<|.Y id m k 0),ad f=>(match o id mem,qf tt t,l3 f with
    |some (.vec g T xs),ad (sz,_),ad cs=>if T.n=m/\sz=m then(match Jk T cs with
     |some z=>ad (⟨sl,(id,.vec g T<|xs.set k z)::mem,nx,gd⟩,.CW k<|Z xs,(bN [x,b]++da [id],[.m id]))
     |none=>none)else none
    |_,_,_=>none)
   |some A,ad f=>(match Jj tt ⟨sl,mem,nx,gd⟩ t A f with
    |some (id,B)=>ad (⟨sl,(id,B)::mem,nx,gd⟩,.t,(bN [x,b]++da [id],[.m id]))
    |none=>none)
   |_,_=>none)
 |some d,.indexAddr t x b=>if d<n then(match St.ev ⟨sl,mem,nx,gd⟩ x,St.ev ⟨sl,mem,nx,gd⟩ b with
   |some (.c<|.X id),ad f=>(match TP tt ⟨sl,mem,nx,gd⟩ t id f with
    |some (v,p)=>ad (⟨(d,v)::sl,mem,nx,gd⟩,p,(bN [x,b]++da [id],[.s d]))
    |none=>none)
   |some (.c<|.W id off len),ad f=>(match TS tt ⟨sl,mem,nx,gd⟩ t id off len f with
    |some (v,p)=>ad (⟨(d,v)::sl,mem,nx,gd⟩,p,(bN [x,b]++da [id],[.s d]))
    |none=>none)
   |some _,ad _=>(match vT tt ⟨sl,mem,nx,gd⟩ (.indexAddr t x b)with
    |some (v,p)=>ad (⟨(d,v)::sl,mem,nx,gd⟩,p,(bN [x,b],[.s d]))
    |none=>none)
   |_,_=>none)else none
 |some d,.build t parts=>if d<n then(match TW tt ⟨sl,mem,nx,gd⟩ t parts.toList with
   |some v=>ad (⟨(d,v)::sl,mem,nx,gd⟩,.t,(bN (Op.build t parts).operands.toList,[.s d]))
   |none=>none)else none
 |some d,.call ⟨.builtin .len,args,l⟩=>if d<n then(match args.toList,l.toList with
   |[x],[t]=>(match St.ev ⟨sl,mem,nx,gd⟩ x with
    |some (.c<|.X id)=>(match TU tt ⟨sl,mem,nx,gd⟩ t id with
     |some v=>ad (⟨(d,v)::sl,mem,nx,gd⟩,.t,(bN [x]++da [id],[.s d]))
     |none=>none)
    |some v=>(match I6 tt t v with
     |some u=>ad (⟨(d,u)::sl,mem,nx,gd⟩,.t,(bN [x],[.s d]))
     |none=>none)
    |none=>none)
   |_,_=>none)else none
 |some d,.box g x=>if d<n then(match St.ev ⟨sl,mem,nx,gd⟩ x with
   |some v=>(match l3 v with
    |some cs=>if cs.all lO=ae then ad (⟨(d,.c<|.P a 0)::sl,(a,.box g 0 cs)::mem,nx,gd⟩,.t,(bN [x],[.s d,.m a]))else none
    |none=>none)
   |none=>none)else none
 |some d,.alloc g=>if d<n then(match o g tt with
   |some D=>ad (⟨(d,.c<|.P a 0)::sl,(a,.box g 0<|D.zero.map ZV.qP)::mem,nx,gd⟩,.t,([],[.s d,.m a]))
   |none=>none)else none
 |some d,op=>if d<n then(match vT tt ⟨sl,mem,nx,gd⟩ op with
   |some (x,p)=>ad (⟨(d,x)::sl,mem,nx,gd⟩,p,(bN op.operands.toList,[.s d]))
   |none=>none)else none
 |none,_=>none
def mZ(P:bW)(n:G)(a:Array a8)(i:G)(l b:St)(d:G)(m:Ks):Prop:=
 ∃f g,jd P n a i f g d/\(∀p∈f,l.kn p.1=ad p.2)/\b.kn=bw l.kn g/\(∀k∈dL f,k∈m.1)/\∀k∈gw g,k∈m.2
def Nw(l:cE P tt=ae){n b}{ops}{i}{o}(D:ops[i]? =ad o)(H:o.guard=none){st st'}{p}{ks}
  (h:FZ tt n b o.dst o.op st=ad (st',p,ks)) (hp:p):mZ P n ops i st st' b ks:=by
 let ⟨sl,mem,nx,gd⟩:=st
 simp only[FZ]at h
 split at h
 .rename_i d t x z a;split at h
  .rename_i f;split at h
   .rename_i v r;split at h
    .rename_i y q w I;simp only[aq,bM]at h;obtain⟨rfl,rfl,rfl⟩:=h;refine⟨_,_,aaZ l D H z f a r I hp b,?_,qR ⟨sl,mem,nx,gd⟩ d y,?_,λk hk=>kV⟩
     .intro s A;rcases bl.1 A with h|h
      .exact eQ _ x s h
      .exact ly _ w s h
     .intro k hk;simp only[dL,gf,bl]at hk;rcases hk with h|h
      .exact eT _<|ff ⟨sl,mem,nx,gd⟩ [x] k Nx
      .exact gO _<|kE ⟨sl,mem,nx,gd⟩ w k h
    .simp at h
   .simp at h
  .simp at h
 .rename_i t x y z a;have K:∀g k,k∈dL (cQ ⟨sl,mem,nx,gd⟩ x++cQ ⟨sl,mem,nx,gd⟩ y++fZ ⟨sl,mem,nx,gd⟩ [g])->k∈bN [x,y]++da [g]:=by
   intro g k hk;simp only[dL,gf,bl]at hk;rcases hk with(h|h)|h
   .exact eT _<|ff ⟨sl,mem,nx,gd⟩ [x,y] k uV
   .exact eT _<|ff ⟨sl,mem,nx,gd⟩ [x,y] k xH
   .exact gO _<|kE ⟨sl,mem,nx,gd⟩ [g] k h
  have C:∀g,∀s∈cQ ⟨sl,mem,nx,gd⟩ x++cQ ⟨sl,mem,nx,gd⟩ y++fZ ⟨sl,mem,nx,gd⟩ [g],St.kn ⟨sl,mem,nx,gd⟩ s.1=ad s.2:=by
   intro g s A;rcases bl.1 A with h|h
   .rcases bl.1 h with h|h
    .exact eQ _ x s h
    .exact eQ _ y s h
   .exact ly _ [g] s h
  split at h
  .rename_i g m k J B N;split at h
   .rename_i E T xs sz ag U I L Q;split at h
    .rename_i W;split at h
     next e X=>simp only[aq,bM]at h;obtain⟨rfl,rfl,rfl⟩:=h;let ⟨V,h2⟩:=W;subst h2;have F:=am0 X;subst F;exact⟨_,_,aa5 l D H z a B N I V L Q hp b,C g,Nv ⟨sl,mem,nx,gd⟩ g _,K g,λk hk=>kV⟩
     .simp at h
    .simp at h
   .simp at h
  .rename_i vx J B N;split at h
   next g Y Z=>simp only[aq,bM]at h;obtain⟨rfl,rfl,rfl⟩:=h;exact⟨_,_,aa2 l D H z a B N Z b,C g,Nv ⟨sl,mem,nx,gd⟩ g Y,K g,λk hk=>kV⟩
   .simp at h
  .simp at h
 .rename_i d t x y z a;split at h
  .rename_i f;split at h
   .rename_i g J B N;split at h
    .rename_i v q X;simp only[aq,bM]at h;obtain⟨rfl,rfl,rfl⟩:=h;refine⟨_,_,amX l D H z f a B N X hp b,?_,qR ⟨sl,mem,nx,gd⟩ d _,?_,λk hk=>kV⟩
     .intro s A;rcases bl.1 A with h|h
      .rcases bl.1 h with h|h
       .exact eQ _ x s h
       .exact eQ _ y s h
      .exact ly _ [g] s h
     .intro k hk;simp only[dL,gf,bl]at hk;rcases hk with(h|h)|h
      .exact eT _<|ff ⟨sl,mem,nx,gd⟩ [x,y] k uV
      .exact eT _<|ff ⟨sl,mem,nx,gd⟩ [x,y] k xH
      .exact gO _<|kE ⟨sl,mem,nx,gd⟩ [g] k h
    .simp at h
   .rename_i g off len J B N;split at h
    .rename_i v q X;simp only[aq,bM]at h;obtain⟨rfl,rfl,rfl⟩:=h;refine⟨_,_,amY l D H z f a B N X hp b,?_,qR ⟨sl,mem,nx,gd⟩ d _,?_,λk hk=>kV⟩
     .intro s A;rcases bl.1 A with h|h
      .rcases bl.1 h with h|h
       .exact eQ _ x s h
       .exact eQ _ y s h
      .exact ly _ [g] s h
     .intro k hk;simp only[dL,gf,bl]at hk;rcases hk with(h|h)|h
      .exact eT _<|ff ⟨sl,mem,nx,gd⟩ [x,y] k uV
      .exact eT _<|ff ⟨sl,mem,nx,gd⟩ [x,y] k xH
      .exact gO _<|kE ⟨sl,mem,nx,gd⟩ [g] k h
    .simp at h
   .split at h
    next v q B=>simp only[aq,bM]at h;obtain⟨rfl,rfl,rfl⟩:=h;refine⟨_,_,Nm l D H z f (by rw[a];exact B) hp b,tF _ _,qR ⟨sl,mem,nx,gd⟩ _ _,λk hk=>?_,λk hk=>kV⟩;rw[a]at hk;exact ff ⟨sl,mem,nx,gd⟩ _ k hk
    .simp at h
   .simp at h
  .simp at h
 .rename_i d t M z a;split at h
  .rename_i f;split at h
   next v r=>simp only[aq,bM]at h;obtain⟨rfl,rfl,rfl⟩:=h;refine⟨_,_,am5 l D H z f a r b,tF _ _,qR ⟨sl,mem,nx,gd⟩ _ _,λk hk=>?_,λk hk=>kV⟩;rw[a]at hk;exact ff ⟨sl,mem,nx,gd⟩ _ k hk
   .simp at h
  .simp at h
 .rename_i d args O z a;split at h
  .rename_i f;split at h
   .rename_i x t ha ht;have c:args= #[x]:=Jd;have G:O= #[t]:=TH;subst c G;split at h
    .rename_i g B;split at h
     .rename_i v X;simp only[aq,bM]at h;obtain⟨rfl,rfl,rfl⟩:=h;refine⟨_,_,amZ l D H z f a B X b,?_,qR ⟨sl,mem,nx,gd⟩ d _,?_,λk hk=>kV⟩
      .intro s A;rcases bl.1 A with h|h
       .exact eQ _ x s h
       .exact ly _ [g] s h
      .intro k hk;simp only[dL,gf,bl]at hk;rcases hk with h|h
       .exact eT _<|ff ⟨sl,mem,nx,gd⟩ [x] k Nx
       .exact gO _<|kE ⟨sl,mem,nx,gd⟩ [g] k h
     .simp at h
    .rename_i v B;split at h
     next u hu=>simp only[aq,bM]at h;obtain⟨rfl,rfl,rfl⟩:=h;refine⟨_,_,Nm l D H z f (x:=u) (p:= .t) (st:=⟨sl,mem,nx,gd⟩) (by rw[a];simp[vT,B,hu]) j b,tF _ _,qR ⟨sl,mem,nx,gd⟩ _ _,λk hk=>?_,λk hk=>kV⟩;rw[a]at hk;exact ff ⟨sl,mem,nx,gd⟩ [x] k hk
     .simp at h
    .simp at h
   .simp at h
  .simp at h
 .rename_i d E x z a;split at h
  .rename_i f;split at h
   .rename_i v r;split at h
    .rename_i U Q;split at h
     next R=>simp only[aq,bM]at h;obtain⟨rfl,rfl,rfl⟩:=h;exact⟨_,_,amV D H z f a r Q R b,eQ _ x,FY ⟨sl,mem,nx,gd⟩ d b _ _,λk hk=>ff ⟨sl,mem,nx,gd⟩ [x] k (by simpa[dL]using hk),λk hk=>kV⟩
     .simp at h
    .simp at h
   .simp at h
  .simp at h
 .rename_i d E z a;split at h
  .rename_i f;split at h
   next ti S=>simp only[aq,bM]at h;obtain⟨rfl,rfl,rfl⟩:=h;exact⟨_,_,amW l D H z f a S b,au,FY ⟨sl,mem,nx,gd⟩ d b _ _,by simp[dL],λk hk=>kV⟩
   .simp at h
  .simp at h
 .rename_i d _ z _ _ _ _ _ _;split at h
  .rename_i f;split at h
   next x q B=>simp only[aq,bM]at h;obtain⟨rfl,rfl,rfl⟩:=h;exact⟨_,_,Nm l D H z f B hp b,tF _ _,qR ⟨sl,mem,nx,gd⟩ _ x,λk hk=>ff ⟨sl,mem,nx,gd⟩ _ k hk,λk hk=>kV⟩
   .simp at h
  .simp at h
 .simp at h
def tG(a:E a8)(b:G):aw G:=match a[b]? with
 |some o=>o.dst
 |none=>none
def F1{d}{l f}(i:tG d.toList l=ad f){g}{a:Act}{b}(p:bh g (.c<|.B b) (a.tmps.getD f undef)):yielded d a.tmps l=ad b:=by
 have m:a.tmps.getD f undef= .bool b:=p;have:(d[l]?).bind (·.dst)=ad f:=by
  unfold tG at i;rw[F3]at i;cases ho:d[l]? with
  |none=>rw[ho]at i;simp at i
  |some s=>rw[ho]at i;simpa using i
 unfold yielded;rw[this];rcases r7 f a.tmps.size with k|n
 .have:a.tmps[f]? =ad (.bool b):=by rw[TY k];rw[l7,TY k]at m;simpa using m
  simp[this]
 .exfalso;rw[l7,Array.getElem?_eq_none n]at m;simp[undef]at m
def aa8{n u}{d}{i}{A}(ho:d[i]? =ad A){gT}{f b}(hg:A.guard=ad (gT,f)){t}(hj:tG d.toList gT=ad t){D x}(hb:o t D.sl=ad (.c<|.B b))(H:b=f){N}
  (m:mZ P n (#[{A with guard:=none}]) 0 D x u N):mZ P n d i D x u (.s t::N.1,N.2):=by
 let ⟨rd,wr,G,C,T,X,e⟩:=m
 refine⟨(.s t,.v<|.c<|.B b)::rd,wr,?_,?_,T,λk y=>?_,e⟩
 .intro F q Q p I g W a K z l E J;have r:=G F q Q p I g W a K z l (λw cy=>E w e9) J;have M:iv A (yielded d a.tmps)=ae:=by simp only[iv,hg,F1 hj (l.dW t (.c<|.B b)<|E (.s t,.v<|.c<|.B b) au),H,beq_self_eq_true]
  unfold wpOp at r⊢;simp only[ho,M,cz];simp only[vR,oG,iv,cz]at r;exact r
 .intro w cy;rcases b7.1 cy with rfl|m
  .simp[St.kn,hb]
  .exact C w m
 .simp only[dL,gX,b7]at y;rcases y with m|m
  .simp[m]
  .exact ls _<|X k m
def am6{n x}{m}{i}{D:a8}(ho:m[i]? =ad D){gT}{l b}(hg:D.guard=ad (gT,l)){p}(hj:tG m.toList gT=ad p){H}(hb:o p H.sl=ad (.c<|.B b))(N:b= !l)
  {d:G} (hd:D.dst=ad d):mZ P n m i H (H.del d) x ([.s p],[.s d]):=by
 refine⟨[(.s p,.v<|.c<|.B b)],[(.s d,none)],?_,?_,aa7 H d,λk hk=>by simpa[dL]using hk,λk hk=>kV⟩
 .intro F X Q C L g W a K z f q r;have E:iv D (yielded m a.tmps)=ah:=by simp only[iv,hg,F1 hj (f.dW p (.c<|.B b)<|q (.s p,.v<|.c<|.B b) au),N];cases l<;>rfl
  unfold wpOp;simp only[ho,E,jx,b8,hd];refine r g W _<|f.step (chg:=λ_=>False) (g':=g) (W':=W) ⟨⟨cL.refl _,λ_ _=>rfl⟩,λ_ _ _=>rfl,f.sub,aL _,λ_ _ _=>rfl,J,J,J⟩ _ x z pj f.defers ?_ (λ_ h=>h.elim) ?_ ?_ ?_ ?_
  .intro t ht;have T:d≠t:=uR;simp[iK,l0 T]
  .intro t u ht;simp only[aD]at ht;split at ht<;>simp at ht
  .intro I b ht;simp[aD]at ht
  .intro k y ht;simp only[aD]at ht;split at ht<;>simp at ht
  .intro I y ht;simp[aD]at ht
 .intro M A;simp only[iW]at A;subst A;simp[St.kn,hb]
def am7{n x}{m}{i}{D:a8}(ho:m[i]? =ad D){gT}{l b}(hg:D.guard=ad (gT,l)){p}(hj:tG m.toList gT=ad p){H}(hb:o p H.sl=ad (.c<|.B b))(N:b= !l)
  {d:G} (hd:D.dst=ad d):mZ P n m i H (H.put d<|.c .any) x ([.s p],[.s d]):=by
 refine⟨[(.s p,.v<|.c<|.B b)],[(.s d,ad<|.v<|.c .any)],?_,?_,qR H d _,λk hk=>by simpa[dL]using hk,λk hk=>kV⟩
 .intro F w Q T O g W a K z f E I;have M:iv D (yielded m a.tmps)=ah:=by simp only[iv,hg,F1 hj (f.dW p (.c<|.B b)<|E (.s p,.v<|.c<|.B b) au),N];cases l<;>rfl
  unfold wpOp;simp only[ho,M,jx,b8,hd];refine I g W _<|f.step (chg:=λ_=>False) (g':=g) (W':=W) ⟨⟨cL.refl _,λ_ _=>rfl⟩,λ_ _ _=>rfl,f.sub,aL _,λ_ _ _=>rfl,J,J,J⟩ _ x z pj f.defers ?_ (λ_ h=>h.elim) ?_ ?_ ?_ ?_
  .intro t ht;have X:d≠t:=uR;simp[iK,l0 X]
  .intro t u ht;simp only[aD]at ht;split at ht
   .simp only[aq,Info.v.injEq]at ht;subst ht;exact j
   .simp at ht
  .intro r b ht;simp[aD]at ht
  .intro k y ht;simp only[aD]at ht;split at ht
   .simp only[aq]at ht;subst ht;intro r q;simp[Info.ak,AV.ak,C.ak]at q
   .simp at ht
  .intro r y ht;simp[aD]at ht
 .intro R A;simp only[iW]at A;subst A;simp[St.kn,hb]
def Ny(tt:TT)(n g:G)(i:E a8)(f:a8)(a:St):aw (St×Pr×Ks):=match f.guard with
 |none=>FZ tt n g f.dst f.op a
 |some (j,want)=>(match tG i j with
  |some k=>(match o k a.gd,o k a.sl with
   |some dec,ad (.c<|.B b)=>if dec=want then(match FZ tt n g f.dst f.op a with
     |some (l,p,m)=>ad (l,.an (.vQ b want) p,(.s k::m.1,m.2))
     |none=>none)
    else(match f.dst with
     |some d=>ad (⟨(d,.c .any)::a.sl,a.mem,a.nx,a.gd⟩,.vQ b<|!want,([.s k],[.s d]))
     |none=>none)
   |_,_=>none)
  |none=>none)
def aa9(k:cE P tt=ae){n l}{f}{i}{t}(u:f[i]? =ad t){v m}{p}{x}
  (a:Ny tt n l f.toList t v=ad (m,p,x)) (g:p):mZ P n f i v m l x:=by
 unfold Ny at a
 split at a
 next s=>exact Nw k u s a g
 .rename_i j z s;split at a
  .rename_i Q A;split at a
   .rename_i D b _ B;split at a
    .split at a
     next C q H K=>simp at a;obtain⟨rfl,rfl,rfl⟩:=a;have g:=Pr.I3 g;exact aa8 u s A B g.1<|Nw k (o:={t with guard:=none}) au J K g.2
     .simp at a
    .split at a
     next d N=>simp at a;obtain⟨rfl,rfl,rfl⟩:=a;exact am7 u s A B g N
     .simp at a
   .simp at a
  .simp at a
def mask(l:E Edge)(a:E G):G:=l.foldl (λs e=>if vP .any e then s|||2^e.on|||I a e.on 0 else s) 0
def sc:E a8->E G->E G
 |[],acc=>acc
 |a::os,acc=>sc os<|acc++[mask a.after.toList acc]
def F4:E a8->G->Bool
 |[],_=>ae
 |b::os,i=>b.after.toList.all (λa=> !vP .any a||decide (a.on<i))&&F4 os (i+1)
def Jr(a b:E Key):Bool:=a.any λk=>b.any λd=>k=d
def py(a b:Ks):Bool:=Jr a.2 b.2||Jr a.2 b.1||Jr a.1 b.2
def Da(m:G)(b:Ks):E Ks->G->Bool
 |[],_=>ae
 |a::l,i=>(!py a b||oH m i)&&Da m b l (i+1)
def y':E G->E Ks->E Ks->Bool
 |m::ms,b::a,done=>Da m b done 0&&y' ms a (done++[b])
 |[],[],_=>ae
 |_,_,_=>ah
def sd(a:E a8)(b:E Ks):Bool:=F4 a 0&&y' (sc a []) b []
def am8{l}{d}{f}(a:(mask l d).testBit f=ae):∃b∈l,vP .any b=ae/\(b.on=f\/oH (I d b.on 0) f=ae):=by
 unfold mask at a;have g:∀(l:E Edge)(s:G),oH (l.foldl (λs b=>if vP .any b then s|||2^b.on|||I d b.on 0 else s) s) f=ae->
   oH s f=ae\/∃b∈l,vP .any b=ae/\(b.on=f\/oH (I d b.on 0) f=ae):=by
  intro l
  induction l with
  |nil=>intro s a;exact .inl a
  |cons b l m=>
   intro s a
   simp[Ns]at a
   rcases m _ a with a|⟨n,i,p,h2⟩
   .split at a
    .rename_i k;simp[Nat.testBit_or,A5,Nat.testBit_two_pow]at a;rcases a with(a|a)|a
     .exact .inl a
     .exact .inr ⟨b,au,k,.inl a⟩
     .exact .inr ⟨b,au,k,.inr a⟩
    .exact .inl a
   .exact .inr ⟨n,by simp[i],p,h2⟩
 rcases g l 0 a with a|a
 .simp at a
 .exact a
def TZ{ops:Array a8}:∀(g:E a8)(a:E G),ops.toList=r (Z a) ops.toList++g->Z a+Z g=ops.size->
  (∀k(t:k<Z a) b,a[k].testBit b=ae->np ops b k)->Z (sc g a)=ops.size/\∀k(t:k<Z (sc g a)) b,(sc g a)[k].testBit b=ae->np ops b k
 |[],a,_,hl,n=>by simp only[sc];exact⟨vU,n⟩
 |u::g,a,he,hl,n=>by
  have v:ops[Z a]? =ad u:=by
   rw[<-F3,he,C7 cd];simp only[iC];have:min (Z a) (Z ops.toList)=Z a:=by simp;simp at hl;omega
   rw[this];simp
  simp only[sc];refine TZ g _ ?_ (by simp at hl⊢;omega) ?_
  .have d:Z a<Z ops.toList:=by simp;simp at hl;omega
   simp only[iV,jg,qT,fD];rw[TN d];have A:ops.toList[Z a]=u:=by have:=v;rw[<-F3,df d]at this;simpa using this
   rw[A,nt];exact he
  .intro k t b p;rcases r7 k (Z a)with m|B
   .rw[sa m]at p;exact n k m b p
   .have:k=Z a:=by simp at t;omega
    subst this;simp only[Js (aL _),kg,xC]at p;let ⟨e,x,z,i⟩:=am8 p;have f:e∈u.after:=by simpa using x
    rcases i with l|l
    .exact .one v f z l
    .rcases r7 e.on (Z a)with s|s
     .rw[aO,df s]at l;exact .more v f z J<|n e.on s b l
     .rw[aO,iw s]at l;simp at l
def aa':∀(f:E a8)(i:G),F4 f i=ae->∀k g,f[k]? =ad g->∀d∈g.after,vP .any d=ae->d.on<i+k
 |[],_,_,k,g,a=>by simp at a
 |g::f,i,l,0,n,a=>by
  simp only[oG,aq]at a;subst a;simp only[F4,cP,nY,A5,Jt,nr]at l;intro d m b;have:=l.1 d (by simpa using m);rcases this with a|a
  .rw[a]at b;cases b
  .omega
 |g::f,i,l,k+1,n,a=>by simp only[xB]at a;simp only[F4,cP]at l;intro d m b;have:=aa' f (i+1) l.2 k n a d m b;omega
def abb{m:G}{b:Ks}:∀(l:E Ks)(i:G),Da m b l i=ae->∀k a,l[k]? =ad a->py a b=ae->oH m (i+k)=ae
 |[],_,_,k,a,d=>by simp at d
 |a::l,i,f,0,n,d=>by
  simp[oG]at d;subst d;simp[Da,A5,Jt]at f;intro g;rcases f.1 with d|d
  .rw[d]at g;cases g
  .simpa using d
 |a::l,i,f,k+1,n,d=>by simp[xB]at d;simp[Da]at f;intro g;have:=abb l (i+1) f.2 k n d g;rw[(Y:i+(k+1)=i+1+k)];exact this
def abd:∀(k:E G)(f done:E Ks),y' k f done=ae->∀g m b,k[g]? =ad m->f[g]? =ad b->∀i a,i<done.length+g->(done++f)[i]? =ad a->py a b=ae->oH m i=ae
 |m::k,b::f,done,d,0,p,s,hm,l=>by simp[oG]at hm l;subst hm l;simp[y']at d;intro i a t ha n;rw[C6 Y]at ha;have:=abb done 0 d.1 i a ha n;simpa using this
 |m::k,b::f,done,d,g+1,p,s,hm,l=>by simp[xB]at hm l;simp[y']at d;intro i a t ha n;exact abd k f (done++[b]) d.2 g p s hm l i a cd xI n
 |[],[],_,_,g,m,b,hm,_=>by simp at hm
 |[],_::_,_,d,_,_,_,_,_=>by simp[y']at d
 |_::_,[],_,d,_,_,_,_,_=>by simp[y']at d
def za{a b}{k:Key}(d:k∈a)(f:k∈b):Jr a b=ae:=by simp only[Jr,List.any_eq_true];exact⟨k,d,k,f,au⟩
def T0{d}{p}(s:sd d.toList p=ae):(∀i n g,d[i]? =ad n->g∈n.after->vP .any g=ae->g.on<i)/\
  ∀i f a b,i<f->f<d.size->p[i]? =ad a->p[f]? =ad b->py a b=ae->np d i f:=by
 simp[sd]at s
 refine⟨λi n g x z t=>?_,λi f a b u A ha t B=>?_⟩
 .have:=aa' d.toList 0 s.1 i n (by rw[F3];exact x) g z t;omega
 .have v:=TZ (ops:=d) d.toList [] au au (λk C=>by simp at C);have l:f<Z (sc d.toList []):=by rw[v.1];exact A
  exact v.2 f l i<|abd _ _ [] s.2 f _ b (df l) t i a (by simpa using u) xI B
def qU(a:Kn)(b:E (E (Key×Info)×E (Key×aw Info))):Kn:=b.foldl (λa d=>bw a d.2) a
def abe(a:E (E (Key×Info)×E (Key×aw Info)))(b:E Ks):Prop:=
 Z b=Z a/\∀j(h:j<Z a)(d:j<Z b),(∀k∈dL a[j].1,k∈b[j].1)/\∀k∈gw a[j].2,k∈b[j].2
def RG(P:bW)(n:G)(a:Array a8)(f:Bool)(k i:G)(l:E a8)(m:St)(s:E Ks)(Q:St->Prop):Prop:=
 az i a.toList=l->∃(b:E (E (Key×Info)×E (Key×aw Info)))(d:St),Z b=Z l/\
  (∀j(h:j<Z b),uL P n a (i+j) b[j].1 b[j].2 (r8 (λi=>1000000*k+1000*i)<|i+j))/\
  (∀j(h:j<Z b),∀p∈b[j].1,qU m.kn (r j b) p.1=ad p.2)/\
  d.kn=qU m.kn b/\d.nx=k+1/\a.size<=1000/\(f=ae->∃g,abe b g/\sd a.toList (s++g)=ae)/\Q d
def Ju{n}{b}{a}{d i}{f}{mem}{m}{p}{l}{Q:St->Prop}(g:Q ⟨f,mem,d+1,[]⟩)(s:(!a||sd b.toList l)=ae:=by kernel_rfl)(k:fa b.size 1000=ae:=by rfl):
  RG P n b a d i [] ⟨f,mem,m,p⟩ l Q:=by
 intro _
 refine⟨[],⟨f,mem,d+1,[]⟩,J,au,au,J,J,c7 k,λt=>⟨[],⟨J,λj g=>by simp at g⟩,?_⟩,g⟩
 subst t
 simpa using s
def nv{n}{a}{g}{m i}{u}{v}{W p}{ks}{k}{Q:St->Prop}
  (hs:a[i]? =ad u->mZ P n a i W p (1000000*m+1000*i) k) (cA:RG P n a g m (i+1) v p (ks++[k]) Q):RG P n a g m i (u::v) W ks Q:=by
 intro b
 have c:a[i]? =ad u:=by have:=bm (λl=>l[0]?) b;simpa[uS]using this
 have d:az (i+1) a.toList=v:=by rw[<-se,b];rfl
 let ⟨rd,wr,x,z,s,A,B⟩:=hs c
 let ⟨ds,C,hl,e,h2,q,r,D,w,y⟩:=cA d
 refine⟨(rd,wr)::ds,C,by simp[hl],?_,?_,?_,r,D,?_,y⟩
 .intro j hj;cases j with
  |zero=>simpa using x.M7 (new:=r8 (λi=>1000000*m+1000*i) i) ⟨aL _,(Y:1000000*m+1000*i<1000000*m+1000*(i+1))⟩
  |succ j=>
   have:=e j qh
   rw[(Y:i+(j+1)=i+1+j)]
   simpa using this
 .intro j hj X f;cases j with
  |zero=>simp[xC]at f;simpa[qU]using z X f
  |succ j=>
   simp[C2]at f
   have:=h2 j qh X f
   rw[s]at this
   simpa[qU]using this
 .rw[q,s];simp[qU]
 .intro E;let ⟨H,⟨K,N⟩,t⟩:=w E;refine⟨k::H,⟨by simp[K],λj hj T=>?_⟩,by simpa using t⟩;cases j with
  |zero=>exact⟨A,B⟩
  |succ j=>exact N j qh (by simpa using T)
def am9{n}{b}{k i}{l}{m}{p d}{Q:St->Prop}(s:RG P n b ah k i l m d Q):RG P n b ah k i l m p Q:=by intro a;let ⟨ds,f,hl,t,h2,u,v,g,_,x⟩:=s a;exact⟨ds,f,hl,t,h2,u,v,g,au,x⟩
def am'{n}{b}{a}{f i}{l}{m}{s d}{t}{k}{p}{Q:St->Prop}(g:cE P tt=ae)
  (u:Ny tt n (1000000*f+1000*i) b.toList l s=ad (d,p,k)) (v:p) (x:RG P n b a f (i+1) m d (t++[k]) Q):RG P n b a f i (l::m) s t Q:=
 nv (λz=>aa9 g z u v) x
def ix(a:Bool)(b:E Ks)(k:Ks):E Ks:=match a with
 |true=>b++[k]
 |false=>[]
def nw{n}{b}{a}{d i}{f}{g}{l}{k}{Q:St->Prop}(m:RG P n b a d i f g (ix a l k) Q):RG P n b a d i f g (l++[k]) Q:=by
 cases a with
 |true=>exact m
 |false=>exact am9 m
def runs(tt:TT)(n g:G)(a:Bool)(b:E a8):E a8->G->St->Pr->E Ks->E a8×G×St×Pr×E Ks
 |[],i,st,p,d=>([],i,st,p,d)
 |l::os,i,st,p,d=>match Ny tt n (1000000*g+1000*i) b l st with
  |some (f,m,k)=>runs tt n g a b os (i+1) f (.an p m)<|ix a d k
  |none=>(l::os,i,st,p,d)
def abf{n:G}{l:Array a8}{a:Bool}{z:G}{Q:St->Prop}(m:cE P tt=ae):∀(t:E a8)(i:G)(u:St)(p:Pr)(s:E Ks){b:E a8}{v:G}{d:St}{x:Pr}{f:E Ks},
  runs tt n z a l.toList t i u p s=(b,v,d,x,f)->x.h->(RG P n l a z v b d f Q)->p.h/\RG P n l a z i t u s Q
 |[],i,u,p,s,b,v,d,x,f,g,hp,hr=>by simp[runs]at g;obtain⟨rfl,rfl,rfl,rfl,rfl⟩:=g;exact⟨hp,hr⟩
 |o::t,i,u,p,s,b,v,d,x,f,g,hp,hr=>by
  simp[runs]at g;split at g
  next A q k C=>let ⟨B,D⟩:=abf m t (i+1) A (.an p q) (ix a s k) g hp hr;let ⟨H,h2⟩:=Pr.I3 B;exact⟨H,am' m C h2<|nw D⟩
  .simp at g;obtain⟨rfl,rfl,rfl,rfl,rfl⟩:=g;exact⟨hp,hr⟩
def jO{n}{b}{a}{k i}{l}{m}{p}{Q:St->Prop}{d}{u}{f}{v}{g}(s:cE P tt=ae)
  (x:runs tt n k a b.toList l i m .t p=(d,u,f,v,g)) (z:v) (A:RG P n b a k u d f g Q):RG P n b a k i l m p Q:=
 (abf s l i m .t p x z A).2
def xJ{b:Type} ds(d:b) a(f:a<Z ds):I ds a d=ds[a]:=by rw[aO,df f];rfl
def F5 ds(b:Kn):∀a,a<=Z ds->fold (λi=>(I ds i ([],[])).2) b (bJ a)=qU b (r a ds):=by
 intro a;induction a with
 |zero=>intro _;rfl
 |succ a d=>
  intro f
  rw[AU,Tl,d Y,TN Y]
  simp only[qU,List.foldl_append,Ns,List.foldl_nil]
  rw[xJ ds _ a Y]
def kb(a:St):G->Prop:=λb=>b<1000000*a.nx
def ana{d}{m}{st}{Q:St->Prop}{z}{id}{qV:Exit->Act->cJ->Prop}(D:z.rd=none)(lu:P.follows .mixedOrders=ae)(cA:RG P z.n d m st.nx 0 d.toList st [] Q)
  (hQ:∀p,Q p->∀g W a,aR z (kb p) p.kn g W a->qV .normal a W) {g}{W}{a}(h0:aR z (kb st) st.kn g W a):(Code.region id d m).wp P qV a W:=by
 refine(aaG D).1 ?_
 have C:xx z.rd d:=by rw[D];exact ams
 let ⟨ds,p,hl,L,h2,M,O,S,U,V⟩:=cA au
 have T1:Z ds=d.size:=vU
 have w:∀i,i<d.size->uL P z.n d i ((I ds i ([],[])).1) ((I ds i ([],[])).2) (r8 (λi=>1000000*st.nx+1000*i) i):=by intro i e;have:=L i Y;rw[xJ ds _ i Y];simpa using this
 have y:∀i,i<d.size->∀X∈(I ds i ([],[])).1,fold (λi=>(I ds i ([],[])).2) st.kn (bJ i) X.1=ad X.2:=by intro i e X H;rw[F5 ds st.kn i Y];rw[xJ ds _ i Y]at H;exact h2 i Y X H
 have x:∀g W a,aR z (·<1000000*st.nx+1000*d.size) (fold (λi=>(I ds i ([],[])).2) st.kn<|bJ d.size) g W a->qV .normal a W:=by intro g W a E;refine hQ p V g W a ?_;rw[M];rw[F5 ds st.kn d.size Y,jM Y]at E;exact E.weaken (λid aY=>by simp[kb,O];omega)
 cases m with
 |false=>exact Tq (c:=λi=>1000000*st.nx+1000*i) (λi=>Nz) h0 w y x C
 |true=>
  let ⟨K,⟨oF,o⟩,N⟩:=U J
  have G:=T0 N
  have s:∀i j,i<j->j<d.size->∀a b:Ks,(K[i]? =ad a->K[j]? =ad b->py a b=ae->np d i j):=by intro i j l v a b ha hb hc;exact G.2 i j a b l v xI tH hc
  have f:∀i(e:i<d.size),∃a,K[i]? =ad a/\(∀k∈dL (I ds i ([],[])).1,k∈a.1)/\∀k∈gw (I ds i ([],[])).2,k∈a.2:=by intro i e;have T:i<Z K:=Y;refine⟨K[i],df T,?_⟩;rw[xJ ds _ i Y];exact o i Y T
  refine Ts (c:=λi=>1000000*st.nx+1000*i) (λi=>Nz) lu G.1 h0 w y ?_ ?_ ?_ x C
  .intro i j l v k t u;let ⟨a,ha,_,A⟩:=f i Y;let ⟨b,hb,_,B⟩:=f j v;exact s i j l v a b ha hb (by simp[py,za (A k t)<|B k u,F6])
  .intro i j l v k t u;let ⟨a,ha,_,A⟩:=f i Y;let ⟨b,hb,q,_⟩:=f j v;exact s i j l v a b ha hb (by simp[py,za (A k t)<|q k u,F6,F7])
  .intro i j l v k t u;let ⟨a,ha,r,_⟩:=f i Y;let ⟨b,hb,_,B⟩:=f j v;exact s i j l v a b ha hb (by simp[py,za (r k t)<|B k u,F7])
end
def jP:G->aT:=λ_=>undef
def fV(g:Gh):E AV->E aT->Prop
 |[],vs=>vs=[]
 |x::xs,vs=>∃v a,vs=v::a/\bh g x v/\fV g xs a
def cX:E AV->E G
 |[]=>[]
 |x::xs=>x.ak++cX xs
def bh.jh{g}{x}{v}(a:bh g x v)(b:x.ak=[]){H}(d:cL g.H H)(γ:G->aT):bh ⟨H,γ⟩ x v:=
 bh.mono (known:=λ_=>False) ⟨d,λ_ a=>a.elim⟩ (by simp[b]) a
def fV.jh{g:Gh}{γ:G->aT}:∀{xs:E AV}{vs:E aT},fV g xs vs->cX xs=[]->fV ⟨g.H,γ⟩ xs vs
 |[],_,a,_=>a
 |x::xs,_,a,hm=>by simp only[cX,TM]at hm;obtain⟨v,b,rfl,d,f⟩:=a;exact⟨v,b,J,d.jh hm.1 (cL.refl _) γ,f.jh hm.2⟩
def NA(W:cJ)(H:FH)(f:AV)(g:Ending)(d:cJ):Prop:=
 ∃v a,g= .returned v/\bh ⟨a,jP⟩ f v/\cL H a/\(∀b o,b<W.heap.size->a b o=H b o)/\Sub a d/\Below W.heap.size W d
def oI(P:bW)(f:FuncId):Bool:=match P.funcs[f]? with
 |some fn=>fn.name != "runtime.NumGoroutine" &&fn.body.isSome
 |none=>ah
structure jz(P:bW)(f:FuncId)(args:E AV)(r:AV):Prop where
 call:oI P f=ae
 jh:r.ak=[]
 spec:∀H W vs,Sub H W->fV ⟨H,jP⟩ args vs->Calls P f vs.toArray W (NA W H r)
section
variable{P:bW}{tt:TT}
def kF(a:St):E fE->aw (E AV)
 |[]=>ad []
 |x::xs=>match a.ev x,kF a xs with
  |some v,ad vs=>ad<|v::vs
  |_,_=>none
def Db{n:dO}{b:G->Prop}{l:Kn}{g:Gh}{W:cJ}{a:Act}(m:aR n b l g W a)(f:St):∀(xs:E fE)(vs:E AV),kF f xs=ad vs->
  (∀d∈xs.flatMap (cQ f),l d.1=ad d.2)->fV g vs (xs.map a.eval)
 |[],vs,he,_=>by simp only[kF,aq]at he;subst he;rfl
 |x::xs,vs,he,hr=>by
  simp only[kF]at he;split at he
  next v i p k=>simp only[aq]at he;subst he;refine⟨_,_,J,dY m f x v p<|λd cy=>hr d e9,Db m f xs i k<|λd cy=>hr d ?_⟩;simp only[l6,bl];exact .inr cy
  .simp at he
def abg{n B}{ops}{i}{D:a8}(ho:ops[i]? =ad D)(hg:D.guard=none){d:G}(hd:D.dst=ad d)(dG:d<n){f}{args}{kH}(b9:D.op= .call ⟨.value<|.func f,args,kH⟩)
 {p}{vs}{N:AV} (hv:kF p args.toList=ad vs) (hm:cX vs=[]) (hf:jz P f vs N):mZ P n ops i p (p.put d N) B (bN args.toList,[.s d]):=by
 refine⟨args.toList.flatMap<|cQ p,[(.s d,ad<|.v N)],?_,?_,qR p d N,ff p _,λk hk=>kV⟩
 .intro F lM Q j σ g W a K C aX q S;unfold wpOp;simp only[ho,iv,hg,cz];refine .inl ?_;unfold p';have w:(execOp a.eval D).run P W= .ok (.enter f<|args.map a.eval) W:=by
   have l:=hf.call;unfold oI at l;rw[execOp,b9];cases A:P.funcs[f]? with
   |none=>rw[A]at l;simp at l
   |some fn=>
    rw[A]at l
    simp only[cP,bne_iff_ne,ne_eq]at l
    have V:fn.body≠none:=by intro Y;rw[Y]at l;simp at l
    simp[resolve,Act.eval,Deferred.ofValue,invoke,callFunc,A,l.1,V]
  rw[w];simp only[ph];have T:(args.map a.eval)=(args.toList.map a.eval).toArray:=A6;rw[T];refine (hf.spec g.H W _ aX.sub<|(Db aX p _ _ hv q).jh (γ:=jP) hm).mono ?_;rintro e Z ⟨v,R,rfl,X,hle,E,c,m⟩;simp only[hd];have I:d<a.tmps.size:=nX;refine S ⟨R,g.γ⟩ Z _<|aX.step (chg:=λ_=>False) (g':=⟨R,g.γ⟩) ⟨⟨hle,λ_ _=>rfl⟩,E,c,m.size,λk hk _=>m.block k hk,m.os,m.tape,m.output⟩ _ B C pj aX.defers ?_ (λ_ h=>h.elim) ?_ ?_ ?_ ?_
  .intro t ht;have J:d≠t:=uR;simp[iK,l0 J]
  .intro t u ht;simp only[aD]at ht;split at ht
   next e=>simp only[Key.s.injEq]at e;simp only[aq,Info.v.injEq]at ht;subst e;subst ht;have:=X.jh hf.jh (cL.refl _) g.γ;simpa[iK,I]using this
   .simp at ht
  .intro L b ht;simp[aD]at ht
  .intro k y ht;simp only[aD]at ht;split at ht
   .simp only[aq]at ht;subst ht;intro L M;have:L∈N.ak:=M;rw[hf.jh]at this;cases this
   .simp at ht
  .intro L y ht;simp[aD]at ht
 .intro kx O;let ⟨x,_,h⟩:=js.1 O;exact eQ p x kx h
def anb{n}{b}{a}{u i}{d f:G}{args}{g}{A}{pos}{k}{v}{l}{mem}{m}{p}{x}{Q:St->Prop}{vs}{z}
  (B:kF ⟨l,mem,m,p⟩ args.toList=ad vs) (D:jz P f vs z) (H:RG P n b a u (i+1) v ⟨(d,z)::l,mem,m,p⟩ (ix a x (bN args.toList,[.s d])) Q) (N:cX vs=[]:=by rfl) (t:dZ d n=ae:=by rfl):
  RG P n b a u i (⟨ad d,.call ⟨.value<|.func f,args,g⟩,A,pos,k,none⟩::v) ⟨l,mem,m,p⟩ x Q:=
 nv (λC=>abg C J J (c7 t) J B N D) (nw H)
def anc{n}{k}{a}{A i}{d f:G}{args}{l}{D}{pos}{m}{H t}{g b}{N}{p}{mem}{u}{v}{T}{Q:St->Prop}{vs}{W}
  (hj:tG k.toList H=ad t) (hb:o t p=ad (.c<|.B b)) (x:b=g)
  (hv:kF ⟨p,mem,u,v⟩ args.toList=ad vs) (hf:jz P f vs W) (cA:RG P n k a A (i+1) N ⟨(d,W)::p,mem,u,v⟩ (ix a T (.s t::bN args.toList,[.s d])) Q) (hm:cX vs=[]:=by rfl) (z:dZ d n=ae:=by rfl):
  RG P n k a A i (⟨ad d,.call ⟨.value<|.func f,args,l⟩,D,pos,m,ad (H,g)⟩::N) ⟨p,mem,u,v⟩ T Q:=
 nv (λC=>aa8 C J hj hb x<|abg (ops:= #[⟨ad d,.call ⟨.value<|.func f,args,l⟩,D,pos,m,none⟩]) (i:=0) J J J (c7 z) J hv hm hf) (nw cA)
def ane{n}{d}{a}{v i}t{b}{x}{g}{mem}{l}{p}{z}{Q:St->Prop}(D:o t g=ad (.c<|.B b))
  (H:b=ae->RG P n d a v i x ⟨(t,.c<|.B ae)::g,mem,l,(t,ae)::p⟩ z Q)
  (N:b=ah->RG P n d a v i x ⟨(t,.c<|.B ah)::g,mem,l,(t,ah)::p⟩ z Q):RG P n d a v i x ⟨g,mem,l,p⟩ z Q:=by
 have u:∀c:Bool,b=c->(⟨(t,.c<|.B c)::g,mem,l,(t,c)::p⟩:St).kn=(⟨g,mem,l,p⟩:St).kn:=by
  intro c e;subst e;funext k;cases k with
  |s C=>
   by_cases e:t=C
   .subst e;simp[St.kn,o,D]
   .simp[St.kn,o,e]
  |m id=>rfl
 cases b with
 |true=>
  intro A
  let ⟨ds,f,r⟩:=H J A
  rw[u ae J]at r
  exact⟨ds,f,r⟩
 |false=>
  intro A
  let ⟨ds,f,r⟩:=N J A
  rw[u ah J]at r
  exact⟨ds,f,r⟩
structure dO.pl(a:dO)(n:G):Prop where
 n:a.n=n
 k0:a.k0<=1
 rd:a.rd=none
 ds:a.ds=[]
abbrev iD:=dO->Exit->Act->cJ->Prop
def TR(P:bW)(n:G)(d:Code)(b:St)(Q:iD):Prop:=∀F:dO,F.pl n->∀g W a,aR F (kb b) b.kn g W a->d.wp P (Q F) a W
def gy(n:G)(d:Exit)(b:St)(Q:iD):Prop:=∀F:dO,F.pl n->∀g W a,aR F (kb b) b.kn g W a->Q F d a W
def vY(P:bW)(b:Code)(Q:iD):iD:=λF=>Exit.then (λa W=>b.wp P (Q F) a W)<|Q F
def zb(a:G)(Q:iD):iD:=λF=>F8 a<|Q F
def Jv{d:Type}(b:d->St)(k:d->Prop)(i:d->G)(x:d)(Q:iD):iD:=λF=>Exit.then (λa W=>∃f g,k f/\i f<i x/\aR F (kb<|b f) (b f).kn g W a)<|Q F
variable{n:G}{Q:iD}{st:St}
def bI{x b}(d:TR P n x st (vY P b Q)):TR P n (.seq x b) st Q:=λF f g W a i=>wp_seq<|d F f g W a i
def di(b:gy n .normal st Q):TR P n .skip st Q:=λF d g W a f=>wp_skip<|b F d g W a f
def oJ{b}(d:gy n (.exit b) st Q):TR P n (.exit b) st Q:=λF f g W a i=>wp_exit<|d F f g W a i
def bX(b:gy n .ret st Q):TR P n .ret st Q:=λF d g W a f=>wp_ret<|b F d g W a f
def ay{b}{d}(f:TR P n d st (zb b Q)):TR P n (.block b d) st Q:=λF i g W a k=>wp_block<|f F i g W a k
def NB{d}{x i}{b}(l:st.ev d=ad (.c<|.B b))(m:b=ae->TR P n x st Q)(p:b=ah->TR P n i st Q):TR P n (.cond d x i) st Q:=by intro F k g W a f;have s:bh g (.c<|.B b) (a.eval d):=dY f st d _ l<|eQ st d;exact wp_cond_split s (λe=>m e F k g W a f)<|λe=>p e F k g W a f
def NC{m}{d}{b}(i:P.follows .mixedOrders=ae)(p:RG P n d b st.nx 0 d.toList st [] (λf=>gy n .normal f Q)):TR P n (.region m d b) st Q:=by intro F k g W a s;have t:=k.n;subst t;exact ana k.rd i p (λf u g W a l=>u F k g W a l) s
def aS{a}(b:TR P n a st Q):gy n .normal st (vY P a Q):=b
def sf{b}{a}(d:gy n (.exit a) st Q):gy n (.exit a) st (vY P b Q):=d
def cY{a}(b:gy n .ret st Q):gy n .ret st (vY P a Q):=b
def fF{a}(b:gy n .normal st Q):gy n .normal st (zb a Q):=b
def ma{a}(b:gy n .ret st Q):gy n .ret st (zb a Q):=b
def oK{b}(d:gy n .normal st Q):gy n (.exit b) st (zb b Q):=λF f g W a i=>by simp[zb,F8,cz];exact d F f g W a i
def Jw{f b}(i:gy n (.exit b) st Q)(d:b≠f:=by decide):gy n (.exit b) st (zb f Q):=λF k g W a l=>by simp[zb,F8,d,b8];exact i F k g W a l
def pB{a:Type}{b:a->St}{f:a->Prop}{g:a->G}{x}{d}(i:gy n (.exit d) st Q):gy n (.exit d) st (Jv b f g x Q):=i
def m0{a:Type}{b:a->St}{d:a->Prop}{f:a->G}{x}(g:gy n .ret st Q):gy n .ret st (Jv b d f x Q):=g
def Wk(st b:St):Prop:=∀F:dO,F.k0<=1->∀g W a,aR F (kb st) st.kn g W a->∃d,aR F (kb b) b.kn d W a
def a4{f:Type}{b:f->St}{k:f->Prop}{i:f->G}{x}d(l:k d)(m:i d<i x)(p:Wk st (b d)):gy n .normal st (Jv b k i x Q):=by intro F s g W a t;let ⟨u,v⟩:=p F s.k0 g W a t;exact⟨d,u,l,m,v⟩
def anf{p}{α:Type}(H:α->Act->cJ->Prop)(N:α->G){Q:Exit->Act->cJ->Prop} x{a}{i}(z:H x a i)
  (round:∀x a i,H x a i->p.wp P (Exit.then (λu v=>∃A,H A u v/\N A<N x) Q) a i):(Code.loop p).wp P Q a i:=by
 intro b k K
 have T:∀n x a i,N x=n->H x a i->
   ∃e u v,Q e u v/\Arrives P (lone (b.at a<|.code p:: .inLoop p::k) K i) b k K e u v:=by
  intro n
  induction n using Nat.strongRecOn with
  |_ n X=>
   intro x a i h j
   let ⟨e,f,g,hq,d⟩:=round x a i j b (.inLoop p::k) K
   cases e with
   |normal=>
    let ⟨A,s,W⟩:=hq
    let ⟨B,C,D,t,m⟩:=X (N A) (h▸W) A f g J s
    exact⟨B,C,D,t,.of_steps (Steps.trans d<|.one step_inLoop) m⟩
   |exit id=>exact⟨_,f,g,hq,.pass (x:= .inLoop p) J (λ_ _=> .inl au) d⟩
   |goto l=>exact⟨_,f,g,hq,.pass (x:= .inLoop p) J (λ_ _=> .inl au) d⟩
   |ret=>exact⟨_,f,g,hq,.pass (x:= .inLoop p) J (λ_ _=> .inl au) d⟩
   |panic ch=>exact⟨_,f,g,hq,.pass (x:= .inLoop p) J (λ_ _=> .inl au) d⟩
   |outgrown=>exact⟨_,f,g,hq,.pass (x:= .inLoop p) J (λ_ _=> .inl au) d⟩
 let ⟨e,u,v,hq,d⟩:=T _ x a i J z
 exact⟨e,u,v,hq,.of_steps (.one step_loop) d⟩
def bq{α:Type}(b:α->St)(d:α->Prop)(l:α->G) f{m}(t:d f)(u:Wk st (b f))(round:∀x,d x->TR P n m (b x) (Jv b d l x Q)):TR P n (.loop m) st Q:=by
 intro F p g W a v;let ⟨z,A⟩:=u F p.k0 g W a v;refine anf (λx a W=>d x/\∃g,aR F (kb<|b x) (b x).kn g W a) l f ⟨t,z,A⟩ ?_;rintro x a W ⟨i,g,hg⟩;refine wp_mono (round x i F p g W a hg) ?_;intro e H K s;cases e with
 |normal=>
  let ⟨B,k,C,h2,D⟩:=s
  exact⟨B,⟨C,k,D⟩,h2⟩
 |_=>exact s
end
section
variable{P:bW}{tt:TT}{n:G}{Q:iD}{st:St}
def bu(v a:AV):Prop:=(∀g x,bh g v x->bh g a x)/\∀b∈a.ak,b∈v.ak
def bu.refl v:bu v v:=⟨λ_ _ h=>h,λ_ h=>h⟩
def bu.of_eq{v a}(b:v=a):bu v a:=b▸bu.refl v
def bu.nil T:bu (.c<|.V<|.slice none 0 0) (.c<|.S T []):=⟨λg x h=>by have a:x= .slice none 0 0:=h;subst a;exact⟨none,0,J,aL _,au,.inl J⟩,tz⟩
def mb(b d:aA):Prop:=(∀N g W a,gW N g W a b->gW N g W a d)/\∀a∈d.ak,a∈b.ak
def mb.refl b:mb b b:=⟨λ_ _ _ _ h=>h,λ_ h=>h⟩
def mb.of_eq{b a}(d:b=a):mb b a:=d▸mb.refl b
def A7(l:E (G×AV)):E (G×AV)->Prop
 |[]=>True
 | (t,a)::b=>(∃v,o t l=ad v/\bu v a)/\A7 l b
def Dc(l:E (G×aA)):E (G×aA)->Prop
 |[]=>True
 | (t,a)::b=>(∃v,o t l=ad v/\mb v a)/\Dc l b
def A7.get{l:E (G×AV)}:∀{m:E (G×AV)},A7 l m->∀{t b},o t m=ad b->∃v,o t l=ad v/\bu v b
 |[],_,_,_,a=>by simp[o]at a
 | (k,x)::m,hw,t,b,a=>by
  simp[o]at a;split at a
  next d=>subst d;cases a;exact hw.1
  .exact A7.get hw.2 a
def Dc.get{l:E (G×aA)}:∀{m:E (G×aA)},Dc l m->∀{t b},o t m=ad b->∃v,o t l=ad v/\mb v b
 |[],_,_,_,a=>by simp[o]at a
 | (k,x)::m,hw,t,b,a=>by
  simp[o]at a;split at a
  next d=>subst d;cases a;exact hw.1
  .exact Dc.get hw.2 a
def vZ(b:G):E G->Bool
 |[]=>ae
 |id::a=>dZ id b&&vZ b a
def A8(b:G):E (G×AV)->Bool
 |[]=>ae
 | (_,v)::a=>vZ b v.ak&&A8 b a
def tI(b:G):E (G×aA)->Bool
 |[]=>ae
 | (id,v)::a=>dZ id b&&vZ b v.ak&&tI b a
def ND{b:G}:∀{l:E G},vZ b l=ae->∀d∈l,d<b
 |[],_,_,a=>by simp at a
 |g::i,f,d,a=>by
  simp only[vZ,cP]at f;rcases b7.1 a with rfl|a
  .exact c7 f.1
  .exact ND f.2 d a
def F9{b:G}:∀{l:E (G×AV)},A8 b l=ae->∀t v,o t l=ad v->∀f∈v.ak,f<b
 |[],_,_,_,a=>by simp[o]at a
 | (k,x)::g,d,t,v,a=>by
  simp[A8]at d;simp[o]at a;split at a
  .cases a;exact ND d.1
  .exact F9 d.2 t v a
def F'{b:G}:∀{l:E (G×aA)},tI b l=ae->∀t v,o t l=ad v->t<b/\∀f∈v.ak,f<b
 |[],_,_,_,a=>by simp[o]at a
 | (k,x)::i,d,t,v,a=>by
  simp only[tI,cP]at d;simp only[o]at a;split at a
  next g=>subst g;cases a;exact⟨c7 d.1.1,ND d.1.2⟩
  .exact F' d.2 t v a
def wk{st st'}(N:A7 st.sl st'.sl)(T:Dc st.mem st'.mem)(p:(A8 (1000000*st'.nx) st'.sl&&tI (1000000*st'.nx) st'.mem&&(fa 1 st'.nx||fa st.nx 0))=ae:=by rfl):Wk st st':=by
 intro F X g W a h;simp only[cP,A5]at p;let ⟨p,A⟩:=p;have B:∀d,d<F.k0->kb st' d/\g.γ d=F.γ0 d:=by
  intro d l;let ⟨H,h2⟩:=h.fT d l;refine⟨?_,h2⟩;have H:d<1000000*st.nx:=H;show d<1000000*st'.nx;rcases A with e|e
  .have:=c7 e;omega
  .have:=c7 e;omega
 have K:∀t f,st'.kn (.s t)=ad (.v f)->(∃v,st.kn (.s t)=ad (.v v)/\bu v f)/\∀d∈f.ak,d<1000000*st'.nx:=by intro t f e;simp only[St.kn,bY]at e;let ⟨x,hx,he⟩:=e;cases he;let ⟨v,hv,hle⟩:=N.get hx;exact⟨⟨v,si,hle⟩,F9 p.1 t f hx⟩
 have u:∀d i,st'.kn (.m d)=ad (.b i)->(∃b,st.kn (.m d)=ad (.b b)/\mb b i)/\d<1000000*st'.nx/\∀j∈i.ak,j<1000000*st'.nx:=by intro t f e;simp only[St.kn,bY]at e;let ⟨x,hx,he⟩:=e;cases he;let ⟨v,hv,hle⟩:=T.get hx;exact⟨⟨v,si,hle⟩,F' p.2 t f hx⟩
 refine⟨g,h.size,h.defers,?_,?_,?_,?_,?_,h.sub,h.below,h.le,h.fresh,B⟩
 .intro t f e;let ⟨⟨v,hv,hle⟩,_⟩:=K t f e;exact hle.1 _ _<|h.dW t v hv
 .intro d i e;let ⟨⟨b,o,hle⟩,_⟩:=u d i e;exact hle.1 _ _ _ _<|h.cM d b o
 .intro d z b i k e q r C;let ⟨⟨c,hc,_⟩,_⟩:=u d b e;let ⟨⟨w,D,_⟩,_⟩:=u z i q;exact h.inj d z c w k hc D r C
 .intro k x e d l;cases k with
  |s t=>
   cases x with
   |v f=>exact(K t f e).2 d l
   |b i=>simp only[St.kn,bY]at e;let ⟨_,_,he⟩:=e;cases he
  |m j=>
   cases x with
   |v f=>simp only[St.kn,bY]at e;let ⟨_,_,he⟩:=e;cases he
   |b i=>exact(u j i e).2.2 d l
 .intro d x e;cases x with
  |v f=>simp only[St.kn,bY]at e;let ⟨_,_,he⟩:=e;cases he
  |b i=>exact(u d i e).2.1
def fq{b}{st'}(f:Wk st st')(i:TR P n b st' Q):TR P n b st Q:=by intro F d g W a k;let ⟨l,m⟩:=f F d.k0 g W a k;exact i F d l W a m
def Ga{b}{st'}(f:Wk st st')(i:gy n b st' Q):gy n b st Q:=by intro F d g W a k;let ⟨l,m⟩:=f F d.k0 g W a k;exact i F d l W a m
def Dd(P:bW)(d:Func)(f:AV):iD:=λF e a W=>(∀b,¬F.own b)->bodyPost P d (NA F.w0 F.H0 f) e a W
def qW(tt:TT)(st:St):A9->aw AV
 | .tmp t=>o t st.sl
 | .cell t ty=>(match o t st.sl with
  |some (.c<|.P id off)=>(match o id st.mem,qf tt ty with
   |some (.box _ _ cs),ad (sz,a)=>pn cs off sz a
   |_,_=>none)
  |_=>none)
def sj:AV->aw (Bool×E C)
 | .c x=>ad (ah,[x])
 | .a cs=>ad (ae,cs)
 | .t _=>none
def qX(tt:TT)(st:St):E A9->aw (E<|Bool×E C)
 |[]=>ad []
 |x::xs=>(match qW tt st x with
  |some v=>(match sj v,qX tt st xs with
   |some s,ad a=>ad<|s::a
   |_,_=>none)
  |none=>none)
def mc(tt:TT)(st:St):E A9->aw AV
 |[x]=>qW tt st x
 |xs=>(qX tt st xs).map .t
def De(a:Array aT):A9->Go.Sem aT
 | .tmp t=>pure<|a.getD t undef
 | .cell b t=>do loadVar t (<-asAddr (a.getD b undef))
def abh(k:cE P tt=ae){A}{i:G->Prop}{g}{W}{a}(l:aR A i st.kn g W a){x}{v}(hv:qW tt st x=ad v):
  ∃u,(De a.tmps x).run P W= .ok u W/\bh g v u:=by
 cases x with
 |tmp t=>
  simp[qW]at hv
  exact⟨_,by simp[De,pure],l.dW t v si⟩
 |cell b t=>
  simp[qW]at hv
  split at hv
  .rename_i z m hl;split at hv
   next E B C sz T D p=>let ⟨H,vs,rest,s,hh,hr,_,_⟩:=l.cM z (.box E B C) (by simp[St.kn,D]);let ⟨K,d,hp⟩:=l.dW b (.c<|.P z m) Df;rw[s]at d;simp at d;subst d;let ⟨u,f,hu⟩:=Jf (W:=W) k p hr hv H 0 (λj N=>by have:=xD hh j cd;rw[sa N]at this;simpa using this);refine⟨u,?_,hu⟩;simp[fD]at f;simp[De,hp,asAddr];simpa[Instr.loadAt,Instr.sureAddr]using f
   .simp at hv
  .simp at hv
def T2{g}{v}{s}(b:sj v=ad s){u}(d:bh g v u):CQ g s u:=by
 cases v with
 |c x=>simp[sj]at b;subst b;exact d
 |a cs=>simp[sj]at b;subst b;exact d
 |t _=>simp[sj]at b
def A'(t:cE P tt=ae){H}{k:G->Prop}{g}{W}{a}(A:aR H k st.kn g W a){fn}{rs}(B:fn.results=rs.toArray){v}(i:mc tt st rs=ad v):
  ∃u,(results fn a.tmps).run P W= .ok u W/\bh g v u:=by
 have K:∀(rs:E A9)(p:E (Bool×E C)),qX tt st rs=ad p->∃f:E aT,(rs.mapM<|De a.tmps).run P W= .ok f W/\dK g p f/\Z f=Z rs:=by
  intro rs;induction rs with
  |nil=>intro p b;simp only[qX,aq]at b;subst b;exact⟨[],by simp[pure],J,J⟩
  |cons x xs N=>
   intro p b
   simp only[qX]at b
   split at b
   .rename_i j D;split at b
    next s r T X=>simp only[aq]at b;subst b;let ⟨u,hu,d⟩:=abh t A D;let ⟨f,l,m,hlen⟩:=N r X;refine⟨u::f,?_,⟨u,f,J,T2 T d,m⟩,by simp[hlen]⟩;rw[Jp];simp only[dH,hu,eo,l];simp[pure]
    .simp at b
   .simp at b
 have e:results fn a.tmps=(do let vs <-rs.toArray.mapM (De a.tmps);pure (if A:vs.size=1 then vs[0]else .tuple vs)):=by unfold results;rw[B];rfl
 have z:Array.mapM (De a.tmps) rs.toArray=Functor.map List.toArray (rs.mapM<|De a.tmps):=au
 rw[e,z]
 match rs,i with
 |[],i=>
  simp only[mc,qX,xK,aq]at i
  subst i
  exact⟨.tuple #[],by simp[Sem.run,pure],[],J,J⟩
 |[x],i=>
  let ⟨u,hu,d⟩:=abh t A i
  refine⟨u,?_,d⟩
  simp[hu,Sem.run,pure]
 |x::y::r,i=>
  simp only[mc,bY]at i
  obtain⟨p,b,rfl⟩:=i
  let ⟨f,l,m,hlen⟩:=K _ p b
  refine⟨.tuple f.toArray,?_,f,J,m⟩
  have c:f.toArray.size≠1:=by simp[hlen]
  simp only[map_eq_pure_bind,bind_assoc,pure_bind,dH,l,eo]
  rw[dif_neg c]
  rfl
def iX(i:cE P tt=ae){s}{t}{v l}(x:mc tt st t=ad v)(m:bu v l)(p:s.results=t.toArray:=by rfl)(z:l.ak=[]:=by rfl):gy n .ret st (Dd P s l):=by intro F A g W a h d;let ⟨u,hu,f⟩:=A' i h p x;exact⟨h.defers.trans A.ds,u,hu,u,g.H,J,(m.1 _ _ f).jh z (cL.refl _) jP,h.le,λb o B=>h.fresh b o B<|d b,h.sub,⟨h.below.os,h.below.tape,h.below.output,h.below.size,λk C=>h.below.block k C<|d k⟩⟩
def dT:G->E AV->E (G×AV)
 |_,[]=>[]
 |i,v::vs=>(i,v)::dT (i+1) vs
def me{g:Gh}:∀(vs:E AV)(f:E aT)(i:G),fV g vs f->∀t v,o t (dT i vs)=ad v->i<=t/\∃u,f[t-i]? =ad u/\bh g v u/\∀d∈v.ak,d∈cX vs
 |[],_,i,_,t,v,b=>by simp[dT,o]at b
 |x::vs,_,i,hr,t,v,b=>by
  obtain⟨u,k,rfl,l,m⟩:=hr;simp[dT,o]at b;split at b
  next e=>subst e;cases b;exact⟨aL _,u,au,l,λd a=>by simp[cX,a]⟩
  .let ⟨B,p,s,z,A⟩:=me vs k (i+1) m t v b;refine⟨Y,p,?_,z,λd a=>by simp[cX,A d a]⟩;rw[(Y:t-i=(t-(i+1))+1)];simpa using s
def xL{g:Gh}:∀{vs:E AV}{b:E aT},fV g vs b->Z b=Z vs
 |[],_,a=>by simp[fV]at a;subst a;rfl
 |_::vs,_,a=>by obtain⟨u,f,rfl,_,d⟩:=a;simp[xL d]
def Gb{f}{g}{T}{args}{B}(hf:P.funcs[f]? =ad g)(hb:g.body=ad T)(hN:g.ntmps=n)(i:fa args.length n=ae)(D:cX args=[])(N:B.ak=[])(qY:(g.name != "runtime.NumGoroutine")=ae)
  (l:TR P n T ⟨dT 0 args,[],0,[]⟩ (Dd P g B)):jz P f args B:=by
 refine⟨zc,N,?_⟩
 intro H W vs p d
 refine calls_of_wp hf hb ?_
 have K:=xL d
 have i:=c7 i
 refine wp_mono (l {w0:=W,H0:=H,n:=n} ⟨J,bg _,J,J⟩ ⟨H,jP⟩ W _ ⟨?_,J,?_,?_,?_,?_,?_,p,⟨J,J,J,aL _,λ_ _ _=>rfl⟩,cL.refl _,λ_ _ _ _=>rfl,λ_ l=>aF l<|nZ _⟩)<|λe a G q=>q<|λ_ l=>l
 .simp[hN];omega
 .intro t v X;simp only[St.kn,bY]at X;let ⟨x,hx,he⟩:=X;cases he;let ⟨_,u,hu,hr,_⟩:=me args vs 0 d t v hx;have z:vs[t]? =ad u:=v3;have jK:t<Z vs:=(qQ.1 z).1;have:(vs.toArray++Array.replicate (g.ntmps-vs.toArray.size) undef).getD t undef=u:=by rw[l7,uW zd];simp[z]
  rw[this];exact hr
 .intro A b e;simp[St.kn,o]at e
 .intro A w b I k e;simp[St.kn,o]at e
 .intro k x e A C;cases k with
  |m j=>simp[St.kn,o]at e
  |s t=>
   simp only[St.kn,bY]at e
   let ⟨y,E,he⟩:=e
   subst he
   let ⟨_,u,_,_,F⟩:=me args vs 0 d t y E
   have:=F A C
   rw[D]at this
   cases this
 .intro A x e;simp[St.kn,o]at e
end
def sR{l:E (G×AV)}{t:G}{v:AV}(a:o t l=ad v):∃x,o t l=ad x/\bu x v:=⟨v,a,bu.refl v⟩
def bR{l:E (G×aA)}{t:G}{v:aA}(a:o t l=ad v):∃x,o t l=ad x/\mb x v:=⟨v,a,mb.refl v⟩
def sE{l:E (G×AV)}{t:G}{a v:AV}(b:o t l=ad a)(d:a=v):∃x,o t l=ad x/\bu x v:=⟨a,b,bu.of_eq d⟩
def bE{l:E (G×aA)}{t:G}{a v:aA}(b:o t l=ad a)(d:a=v):∃x,o t l=ad x/\mb x v:=⟨a,b,mb.of_eq d⟩
def bK{b:E (G×AV)}:∀{l:E (G×AV)},l.map (λa=>o a.1 b)=l.map (λa=>ad a.2)->A7 b l
 |[],_=>trivial
 | (t,v)::l,d=>⟨⟨v,(NF d).1,bu.refl v⟩,bK (NF d).2⟩
def n5{b:E (G×aA)}:∀{l:E (G×aA)},l.map (λa=>o a.1 b)=l.map (λa=>ad a.2)->Dc b l
 |[],_=>trivial
 | (t,v)::l,d=>⟨⟨v,(NF d).1,mb.refl v⟩,n5 (NF d).2⟩
def aN{d a:St}(f:a.sl.map (λb=>o b.1 d.sl)=a.sl.map (λb=>ad b.2):=by rfl)(g:a.mem.map (λb=>o b.1 d.mem)=a.mem.map (λb=>ad b.2):=by rfl)(i:(A8 (1000000*a.nx) a.sl&&tI (1000000*a.nx) a.mem&&(fa 1 a.nx||fa d.nx 0))=ae:=by rfl):Wk d a:=wk (bK f) (n5 g) i
def m5{p:Prop}(a:p:=by first|trivial| (simp[Pr.an,Pr.h,num,ia];first|done|omega)| (simp[Pr.an,Pr.h,num,ia];done)| (simp[Pr.an,Pr.h,num,ia];omega)):p:=a
def Ba{p:Prop}(a:p:=by first|trivial| (simp[Pr.an,Pr.h,num,ia];first|done|omega)):p:=a
def cj{a b:Int}(d:a=b):AV.c (C.I .u64 a)=AV.c (C.I .u64 b):=by rw[d]
def jQ{a b:Int}(d:a=b):AV.c (C.I .i64 a)=AV.c (C.I .i64 b):=by rw[d]
def Gc{a b:Int}(d:a=b):AV.c (C.I .u32 a)=AV.c (C.I .u32 b):=by rw[d]
section
variable{P:bW}{tt:TT}
def abi{a:Type}(z:E a) n i(d:i<n):r (Z z) (az (i*Z z)<|(bx n z).flatten)=z:=by
 induction n generalizing i with
 |zero=>omega
 |succ n b=>
  rw[Bb,NG]
  cases i with
  |zero=>simp
  |succ i=>
   rw[(Ja:(i+1)*Z z=Z z+i*Z z),<-se,List.drop_left]
   exact b i Y
def abj{a:Type}(z:E a) n:(bx n z).flatten.length=n*Z z:=au
def NH(a:E aT) n(g:a≠[]):(abk<|n*Z a).map (λi=>a.toArray[i%a.toArray.size]!)=((bx n a).flatten).toArray:=by
 apply Array.ext
 .simp
 .intro i f h2;simp at f;have k:0<Z a:=cF.2 g;have d:i%Z a<Z a:=gU _ k;simp only[Array.getElem_map,Array.getElem_range,List.size_toArray,ang];rw[getElem!_pos _ _ (by simpa using d),ang];have l:i/Z a<n:=Bc (by rw[gA];exact f);have p:i=i/Z a*Z a+i%Z a:=by rw[gA];exact(tJ i<|Z a).symm
  have b:(r (Z a)<|(bx n a).flatten.drop<|i/Z a*Z a)[i%Z a]? =a[i%Z a]? :=by rw[abi a n (i/Z a) l]
  rw[Jn d,uS,<-p]at b;rw[df sk,df d]at b;simp only[aq]at b;exact b.symm
def abl{ops}{i}{x:a8}{d:G}(ho:ops[i]? =ad x)(hg:x.guard=none)(hd:x.dst=ad d){n}(dG:d<n){D}{bt}{T}{xs}new(hlen:Z xs*T.n<=140737488355328)
  (cA:∀(hZ:dO)(f:G->Prop)(σ:Kn)(g:Gh)(W:cJ)(a:Act),aR hZ f σ g W a->(∀kx∈qe D x.op,σ kx.1=ad kx.2)->
   ∃(vs:E aT)(l:G)(W1:cJ),(execOp a.eval x).run P W= .ok (.value<|.slice (ad ⟨W.heap.size,0,none⟩) (Z xs) l) {W1 with heap:=W.heap.push<|.cells vs.toArray bt (0,0)}/\W1.os=W.os/\W1.tape=W.tape/\W1.output=W.output/\Z vs=l*T.n/\Z xs<=l/\
    ∀i(cA:i<Z xs),dq g.H T xs[i] ((az (i*T.n) vs).take T.n)):
  mZ P n ops i D ((D.pm new<|.vec bt T xs).put d<|.c<|.X new) new (bN x.op.operands.toList,[.s d,.m new]):=by
 refine⟨qe D x.op,[(.s d,ad<|.v<|.c<|.X new),(.m new,ad<|.b<|.vec bt T xs)],?_,tF D _,FY D d new _ _,ff D _,λk hk=>kV⟩
 intro hZ lM Q f σ g W a K A aX I R
 let ⟨vs,l,W1,j,S,U,V,L,hle,q⟩:=cA hZ f σ g W a aX I
 unfold wpOp
 simp only[ho,iv,hg,cz]
 refine .inl ?_
 unfold p'
 rw[j]
 simp only[ph,hd]
 have M:d<a.tmps.size:=nX
 let N:Gh:=⟨g.H,λB=>if B=new then .slice (ad ⟨W.heap.size,0,none⟩) (Z xs) l else g.γ B⟩
 have r:gN f g N:=⟨cL.refl _,λB p=>by
  have:B≠new:=λe=>A<|e▸p
  simp[N,this]⟩
 have z:∀x,g.H W.heap.size x=none:=by
  intro x;cases hv:g.H W.heap.size x with
  |none=>rfl
  |some v=>
   have:=C5 W _<|aX.sub _ _ _ hv
   simp at this
 have w:Sub g.H {W1 with heap:=W.heap.push<|.cells vs.toArray bt (0,0)}:=by have:=C4 aX.sub<|.cells vs.toArray bt (0,0);exact this
 refine R N _ _<|aX.step (chg:=λ_=>False) (g':=N) ⟨r,λ_ _ _=>rfl,w,au,λk hk _=>FU W _ k hk,S,U,V⟩ _ new A pj aX.defers ?_ (λ_ cA=>cA.elim) ?_ ?_ ?_ ?_
 .intro t ht;have O:d≠t:=uR;simp[iK,l0 O]
 .intro t u ht;simp only[aD]at ht;split at ht
  next e=>simp only[Key.s.injEq]at e;simp only[aq,Info.v.injEq]at ht;subst e;subst ht;simp[iK,M,bh,de,N]
  .split at ht
   .simp at ht
   .simp at ht
 .intro B b ht;simp only[aD,reduceCtorEq,b8]at ht;split at ht
  next e=>simp only[Key.m.injEq]at e;subst e;simp only[aq,Info.b.injEq]at ht;subst ht;refine⟨.inr ⟨W.heap.size,l,vs,by simp[N],au,L,hle,hlen,q,.inl aX.below.size,z⟩,.inr ⟨J,λk hk=> .inl ?_⟩⟩;simp only[N,cz,cO,aq]at hk;omega
  .simp at ht
 .intro k y ht;simp only[aD]at ht;split at ht
  .simp only[aq]at ht;subst ht;intro B p;simp[Info.ak,AV.ak,C.ak]at p;exact .inr p
  .split at ht
   .simp only[aq]at ht;subst ht;intro B p;simp[Info.ak,aA.ak]at p
   .simp at ht
 .intro B y ht;simp only[aD,reduceCtorEq,b8]at ht;split at ht
  next e=>simp only[Key.m.injEq]at e;exact .inr e.symm
  .simp at ht
def anh{ops}{i}{f:a8}{d:G}(ho:ops[i]? =ad f)(hg:f.guard=none)(hd:f.dst=ad d){n}(dG:d<n){D}{bt}{T}{xs}new(hlen:Z xs*T.n<=140737488355328)
  (cA:∀(hZ:dO)(m:G->Prop)(σ:Kn)(g:Gh)(W:cJ)(a:Act),aR hZ m σ g W a->(∀kx∈qe D f.op,σ kx.1=ad kx.2)->
   ∃(vs:E aT)(l:G)(N:cJ),(execOp a.eval f).run P W= .ok (.value<|.slice (ad ⟨W.heap.size,0,none⟩) (Z xs) l) {N with heap:=W.heap.push<|.cells vs.toArray bt (0,0)}/\N.os=W.os/\N.tape=W.tape/\N.output=W.output/\Z vs=l*T.n/\Z xs<=l/\
    ∀i(cA:i<Z xs),dq g.H T xs[i] ((az (i*T.n) vs).take T.n)):
  mZ P n ops i D (D.put d<|.c<|.S T xs) new (bN f.op.operands.toList,[.s d]):=by
 refine⟨qe D f.op,[(.s d,ad<|.v<|.c<|.S T xs)],?_,tF D _,qR D d _,ff D _,λk hk=>kV⟩
 intro hZ lM Q m σ g W a K X aX I V
 let ⟨vs,l,N,q,e1,e2,e3,Bd,hle,A⟩:=cA hZ m σ g W a aX I
 unfold wpOp
 simp only[ho,iv,hg,cz]
 refine .inl ?_
 unfold p'
 rw[q]
 simp only[ph,hd]
 have L:d<a.tmps.size:=nX
 let x:Gh:=⟨λb f=>if b=W.heap.size then vs[f]? else g.H b f,g.γ⟩
 have z:∀f,g.H W.heap.size f=none:=by
  intro f;cases p:g.H W.heap.size f with
  |none=>rfl
  |some v=>
   have:=C5 W _<|aX.sub _ _ _ p
   simp at this
 have B:cL g.H x.H:=by
  intro b f v p;by_cases e:b=W.heap.size
  .subst e;rw[z]at p;cases p
  .simp[x,e,p]
 have r:Sub x.H {N with heap:=W.heap.push<|.cells vs.toArray bt (0,0)}:=by
  intro b f v p;by_cases e:b=W.heap.size
  .subst e;simp only[x,cz]at p;simp[World.cell?,p]
  .simp only[x,e,b8]at p;exact C4 aX.sub (.cells vs.toArray bt (0,0)) b f v p
 refine V x _ _<|aX.step (chg:=λ_=>False) (g':=x) ⟨⟨B,λ_ _=>rfl⟩,?_,r,au,λk hk _=>FU W _ k hk,e1,e2,e3⟩ _ new X pj aX.defers ?_ (λ_ cA=>cA.elim) ?_ ?_ ?_ ?_
 .intro b f hb;have:b≠W.heap.size:=Y;simp[x,this]
 .intro t ht;have M:d≠t:=uR;simp[iK,l0 M]
 .intro t u ht;simp only[aD]at ht;split at ht
  .rename_i e;simp only[Key.s.injEq]at e;simp only[aq,Info.v.injEq]at ht;subst e;subst ht;have w:(a.put (ad d)<|.slice (ad ⟨W.heap.size,0,none⟩) (Z xs) l).tmps.getD d undef= .slice (ad ⟨W.heap.size,0,none⟩) (Z xs) l:=by simp[iK,L]
   rw[w];refine⟨_,l,J,hle,hlen,?_⟩;by_cases hx:xs=[]
   .exact .inl hx
   .refine .inr ⟨W.heap.size,0,J,λk hk=>⟨(az (k*T.n) vs).take T.n,dq.length T _ _<|A k hk,dq.mono B T _ _<|A k hk,λj hj=>?_⟩⟩;have O:(k+1)*T.n<=l*T.n:=dS _ Y;rw[gY,je]at O;simp only[iC,Dg]at hj;simp only[x,cz,fD,tD,vV];exact df Y
  .simp at ht
 .intro U b ht;simp[aD]at ht
 .intro k y ht;simp only[aD]at ht;split at ht
  .simp only[aq]at ht;subst ht;intro U R;simp[Info.ak,AV.ak,C.ak]at R
  .simp at ht
 .intro U y ht;simp[aD]at ht
def ani(v:cE P tt=ae){A}{i}{B:a8}{d:G}(ho:A[i]? =ad B)(hg:B.guard=none)(hd:B.dst=ad d){n}(dG:d<n){t}{x}(b9:B.op= .makeSlice t x x)
 {st}{m:G} {k}(hx:st.ev x=ad (.c<|.I k (m:Int))) {bt}{ti f:TI} (pq:o t tt=ad ti) (hk:ti.kind= .sl bt) (ny:o bt tt=ad f) (T:ET) (uQ:f.size=T.n)
  (hz:∀g:Gh,a6 g (av T T.eP) (f.zero.map ZV.fU)) (hb:m*f.bytes<=281474976710656) (n6:m*T.n<=140737488355328) (l:G):
  mZ P n A i st ((st.pm l<|.vec bt T<|bx m T.eP).put d<|.c<|.X l) l (bN B.op.operands.toList,[.s d,.m l]):=by
 refine abl ho hg hd dG l (by simpa using n6) ?_
 intro F h S g W a C q
 have M:a.eval x= .int k (m:Int):=dY C st x _ hx<|λO cy=>q O T3
 have y:=(fw v pq).kind
 rw[hk]at y
 let ⟨inf,D,H,K,z,r,y8⟩:=(fw v ny).info
 have b:Z (f.zero.map ZV.fU)=T.n:=dq.length T _ _<|CR T _ _<|hz g
 have N:z.cells=(f.zero.map ZV.fU).toArray:=FX
 have Q:(f.zero.map ZV.fU)≠[]:=by intro e;rw[e]at b;have:=T.CP;simp at b;omega
 have R:m*1<=m*T.n:=gD m T.CP
 have w:(inf.bytes:Int)*(m:Int)<=281474976710656:=by
  rw[K];have:(f.bytes:Int)*(m:Int)=((m*f.bytes:G):Int):=by rw[gA];simp
  rw[this];omega
 have p:=run_make (P:=P) W t bt inf z y D r k k m m Y Y w Y
 refine⟨(bx m<|f.zero.map ZV.fU).flatten,m,W,?_,J,J,J,?_,au,?_⟩
 .rw[execOp,b9];have u:madeCells z.cells (m*inf.size)=((bx m<|f.zero.map ZV.fU).flatten).toArray:=by rw[H,uQ,N,<-b,<-NH _ m Q];rfl
  simp only[cC]at p;rw[u]at p;simp only[M,dH,p,eo,ig];rfl
 .rw[abj,b]
 .intro j L;simp only[ig]at L;have:=abi (f.zero.map ZV.fU) m j L;rw[b]at this;rw[this,List.getElem_replicate];exact CR T _ _<|hz g
end
section
variable{P:bW}{tt:TT}{n:G}{Q:iD}{st:St}
def Be(b:G)(T:ET)(xs:E T.den):C->C
 | .X a=>if a=b then .S T xs else .X a
 | .Y a m i off=>if a=b then .any else .Y a m i off
 |d=>d
def Dh(a:G)(T:ET)(xs:E T.den):E C->E C
 |[]=>[]
 |b::d=>Be a T xs b::Dh a T xs d
def Jx(a:G)(T:ET)(xs:E T.den):E (Bool×E C)->E (Bool×E C)
 |[]=>[]
 | (b,cs)::d=>(b,Dh a T xs cs)::Jx a T xs d
def Jy(b:G)(T:ET)(xs:E T.den):AV->AV
 | .c x=> .c<|Be b T xs x
 | .a cs=> .a<|Dh b T xs cs
 | .t d=> .t<|Jx b T xs d
def ze(a:G)(T:ET)(xs:E T.den):E (G×AV)->E (G×AV)
 |[]=>[]
 | (t,v)::b=>(t,Jy a T xs v)::ze a T xs b
def T5(a:G)(T:ET)(xs:E T.den):aA->aA
 | .box d f cs=> .box d f<|Dh a T xs cs
 |b=>b
def v5(a:G)(T:ET)(xs:E T.den):E (G×aA)->E (G×aA)
 |[]=>[]
 | (d,b)::f=>if d=a then v5 a T xs f else(d,T5 a T xs b)::v5 a T xs f
def abm(a:G)(T:ET)(xs:E T.den)(t:G):∀l,o t (ze a T xs l)=(o t l).map (Jy a T xs)
 |[]=>rfl
 | (k,v)::b=>by
  simp[ze,o];split
  .rfl
  .exact abm a T xs t b
def T6(b:G)(T:ET)(xs:E T.den)(t:G):∀l,o t (v5 b T xs l)=if t=b then none else(o t l).map (T5 b T xs)
 |[]=>by simp[v5,o]
 | (k,v)::d=>by
  simp[v5,o];split
  .rename_i a;subst a;rw[T6 k T xs t d];split
   .rfl
   next f=>rw[y (λa=>f a.symm)]
  .rename_i a;simp[o];split
   next g=>subst g;rw[y a];rfl
   .exact T6 b T xs t d
def abn id T xs b:∀d∈(Be id T xs b).ak,d∈b.ak:=by
 intro d a;cases b with
 |X k=>simp[Be]at a;split at a;simp[C.ak]at a;exact a
 |Y k m i off=>simp[Be]at a;split at a;simp[C.ak]at a;exact a
 |_=>exact a
def NI(f:G)(T:ET)(xs:E T.den):∀(b:E C),∀a∈b6 (Dh f T xs b),a∈b6 b
 |[],a,d=>d
 |g::b,a,d=>by simp[Dh,b6]at d⊢;exact d.imp (abn f T xs g a)<|NI f T xs b a
def abo(g:G)(T:ET)(xs:E T.den):∀(d:E (Bool×E C)),∀a∈et (Jx g T xs d),a∈et d
 |[],a,f=>f
 | (b,i)::d,a,f=>by simp[Jx,et]at f⊢;exact f.imp (NI g T xs i a)<|abo g T xs d a
def anj id T xs v:∀b∈(Jy id T xs v).ak,b∈v.ak:=by
 cases v with
 |c x=>exact abn id T xs x
 |a cs=>exact NI id T xs cs
 |t d=>exact abo id T xs d
section
variable{id:G}{T:ET}{xs:E T.den}{known:G->Prop}{g g':Gh}
def T7(b:gN known g g')(f:nl (dq g'.H T) T.n g'.H xs (g.γ id)):∀{a:C}{v:aT},(∀l∈a.ak,known l)->de g a v->de g' (Be id T xs a) v:=by
 intro a v d h;cases a with
 |X k=>
  simp[Be]
  split
  next e=>subst e;simp[de]at h;subst h;exact f
  .exact de.mono b d h
 |Y k m i off=>
  simp[Be]
  split
  .trivial
  .exact de.mono b d h
 |_=>exact de.mono b d h
def NJ(i:gN known g g')(k:nl (dq g'.H T) T.n g'.H xs (g.γ id)):∀{b:E C}{vs:E aT},(∀a∈b6 b,known a)->a6 g b vs->a6 g' (Dh id T xs b) vs
 |[],_,_,d=>d
 |_::_,_,l,d=>by let ⟨v,m,p,s,h2⟩:=d;exact⟨v,m,p,T7 i k (λa f=>l a<|by simp[b6,f]) s,NJ i k (λa f=>l a<|by simp[b6,f]) h2⟩
def abp(m:gN known g g')(p:nl (dq g'.H T) T.n g'.H xs (g.γ id)):∀{s:E (Bool×E C)}{vs:E aT},(∀a∈et s,known a)->dK g s vs->dK g' (Jx id T xs s) vs
 |[],_,_,d=>d
 | (b,l)::_,_,u,d=>by
  let ⟨v,x,t,f,h2⟩:=d;refine⟨v,x,t,?_,abp m p (λa i=>u a<|by simp[et,i]) h2⟩;have k:∀a∈b6 l,known a:=λa i=>u a (by simp[et,i])
  match b,l,f with
  |true,l,f=>let ⟨vs,t,d⟩:=f;exact⟨vs,t,NJ m p k d⟩
  |false,[l],f=>exact T7 m p (λa i=>k a<|by simp[b6,i]) f
def ank(d:gN known g g')(f:nl (dq g'.H T) T.n g'.H xs (g.γ id)){x}{v}(i:∀k∈x.ak,known k)(b:bh g x v):bh g' (Jy id T xs x) v:=by
 cases x with
 |c y=>exact T7 d f i b
 |a cs=>let ⟨vs,e,b⟩:=b;exact⟨vs,e,NJ d f i b⟩
 |t l=>let ⟨vs,e,b⟩:=b;exact⟨vs,e,abp d f i b⟩
end
def Jz l{bt}{T}{xs}{sl}{mem}{nx}{gd}(hl:o l mem=ad (.vec bt T xs)):Wk ⟨sl,mem,nx,gd⟩ ⟨ze l T xs sl,v5 l T xs mem,nx,gd⟩:=by
 intro F oL g W a h;have D:St.kn ⟨sl,mem,nx,gd⟩ (.m l)=ad (.b<|.vec bt T xs):=Df;have S:=h.cM l _ D;have main:∀A:Gh,gN (kb ⟨sl,mem,nx,gd⟩) g A->nl (dq A.H T) T.n A.H xs (g.γ l)->Sub A.H W->(∀b d,b<F.w0.heap.size->¬F.own b->A.H b d=F.H0 b d)->(∀b d,cO (g.γ l)≠ad b->A.H b d=g.H b d)->A.γ=g.γ->
   aR F (kb ⟨ze l T xs sl,v5 l T xs mem,nx,gd⟩) (St.kn ⟨ze l T xs sl,v5 l T xs mem,nx,gd⟩) A W a:=by
  intro A z hX U xM V hγ
  have hS:∀t X,St.kn ⟨ze l T xs sl,v5 l T xs mem,nx,gd⟩ (.s t)=ad (.v X)->∃v,St.kn ⟨sl,mem,nx,gd⟩ (.s t)=ad (.v v)/\X=Jy l T xs v:=by intro t X e;simp only[St.kn,abm,Option.map_map,bY]at e;let ⟨v,hv,he⟩:=e;cases he;exact⟨v,si,J⟩
  have hM:∀j p,St.kn ⟨ze l T xs sl,v5 l T xs mem,nx,gd⟩ (.m j)=ad (.b p)->∃b,St.kn ⟨sl,mem,nx,gd⟩ (.m j)=ad (.b b)/\p=T5 l T xs b/\j≠l:=by
   intro j p e;simp only[St.kn,T6]at e;split at e
   .simp at e
   next M=>simp only[Option.map_map,bY]at e;let ⟨b,B,he⟩:=e;cases he;exact⟨b,by simp[St.kn,B],J,M⟩
  refine⟨h.size,h.defers,?_,?_,?_,?_,?_,U,h.below,h.le.trans z.H,xM,λl D=>⟨(h.fT l D).1,by rw[hγ];exact(h.fT l D).2⟩⟩
  .intro t X e;obtain⟨v,hv,rfl⟩:=hS t X e;exact ank z hX (λj K=>h.ak _ _ hv j K)<|h.dW t v hv
  .intro j p e;obtain⟨b,B,rfl,M⟩:=hM j p e;have q:=h.cM j b B;have u:∀k,cO (g.γ j)=ad k->cO (g.γ l)≠ad k:=λk O r=>M (h.inj j l b _ k B D O r)
   cases b with
   |box E' bz cs=>
    let ⟨k,vs,rest,e1,C,w,y,G,e6⟩:=q
    exact⟨k,vs,rest,sn,C,NJ z hX (λi N=>h.ak _ _ B i N) w,y,λd=>by rw[V k d (u k e1)];exact G d,by rw[hγ];exact e6⟩
   |vec E' T' ys=>
    rcases q with⟨e1,C⟩|⟨k,I,vs,e1,C,w,y,NK,G,e6,e7⟩
    .exact .inl ⟨sn,C⟩
    .exact .inr ⟨k,I,vs,sn,C,w,y,NK,λi N=>dq.mono z.H _ _ _<|G i N,e6,λd=>by rw[V k d (u k<|by rw[e1];rfl)];exact e7 d⟩
   |eB f first caps=>
    let ⟨us,ws,e1,C,w⟩:=q
    exact⟨us,ws,sn,dK.mono z (λi N=>h.ak _ _ B i<|eT _ N) C,dK.mono z (λi N=>h.ak _ _ B i<|gO _ N) w⟩
   |fz E' cs=>
    let ⟨k,vs,rest,e1,C,w,y,G⟩:=q
    exact⟨k,vs,rest,sn,C,a6.mono z (λi N=>h.ak _ _ B i N) w,y,λd=>by rw[V k d (u k e1)];exact G d⟩
   |mp ka va ys=>
    let ⟨k,es,e1,C,w,y,G⟩:=q
    exact⟨k,es,sn,C,jr.mono z (λi N=>h.ak _ _ B i N) w,y,λd=>by rw[V k d (u k<|by rw[e1];rfl)];exact G d⟩
   |it m n seen=>
    let ⟨k,b,e1,e0,C,y,G⟩:=q
    exact⟨k,b,sn,by rw[hγ];exact e0,C,y,λd=>by rw[V k d (u k<|by rw[e1];rfl)];exact G d⟩
  .intro i j b p k e e' O r;let ⟨c,hc,_⟩:=hM i b e;let ⟨c',Gd,_⟩:=hM j p e';rw[hγ]at O r;exact h.inj i j c c' k hc Gd O r
  .intro k x e j K;cases k with
   |s t=>
    cases x with
    |v X=>obtain⟨v,hv,rfl⟩:=hS t X e;exact h.ak _ _ hv j<|anj l T xs v j K
    |b p=>simp only[St.kn,bY]at e;let ⟨_,_,he⟩:=e;cases he
   |m i=>
    cases x with
    |v X=>simp only[St.kn,bY]at e;let ⟨_,_,he⟩:=e;cases he
    |b p=>
     obtain⟨b,B,rfl,_⟩:=hM i p e
     refine h.ak _ _ B j ?_
     cases b with
     |box E' bz cs=>exact NI l T xs cs j K
     |vec E' T' ys=>exact K
     |eB f first caps=>exact K
     |fz E' cs=>exact K
     |mp ka va ys=>exact K
     |it m n seen=>exact K
  .intro i x e;cases x with
   |v X=>simp only[St.kn,bY]at e;let ⟨_,_,he⟩:=e;cases he
   |b p=>let ⟨b,B,_⟩:=hM i p e;exact h.dX _ _ B
 rcases S with⟨hγ,hx⟩|⟨b,I,vs,hγ,hh,Bd,z,hlen,q,hN,hz⟩
 .refine⟨g,main g ⟨cL.refl _,λ_ _=>rfl⟩ ?_ h.sub h.fresh (λ_ _ _=>rfl) J⟩;subst hx;exact⟨none,0,hγ,au,au,.inl J⟩
 .let A:Gh:=⟨λp d=>if p=b then(if d<Z xs*T.n then vs[d]? else none)else g.H p d,g.γ⟩;have L:cL g.H A.H:=by
   intro p d v hv;by_cases e:p=b
   .subst e;rw[hz]at hv;cases hv
   .simp[A,e,hv]
  refine⟨A,main A ⟨L,λ_ _=>rfl⟩ ?_ ?_ ?_ ?_ J⟩
  .refine⟨ad ⟨b,0,none⟩,I,hγ,z,hlen,?_⟩;by_cases hx:xs=[]
   .exact .inl hx
   .refine .inr ⟨b,0,J,λk O=>⟨(az (k*T.n) vs).take T.n,dq.length T _ _<|q k O,dq.mono L T _ _<|q k O,λj K=>?_⟩⟩;have JA:(k+1)*T.n<=I*T.n:=dS _ Y;have NL:(k+1)*T.n<=Z xs*T.n:=dS _ Y;rw[gY,je]at JA NL;simp only[iC,Dg]at K;have jK:k*T.n+j<Z xs*T.n:=Y;simp only[A,cz,fD,tD,vV,jK];exact df Y
  .intro p d v hv;by_cases e:p=b
   .subst e;simp only[A,cz]at hv;split at hv
    .simp[World.cell?,hh,hv]
    .cases hv
   .simp only[A,e,b8]at hv;exact h.sub p d v hv
  .intro p d R lz;have:p≠b:=by
    intro e;subst e;rcases hN with h1|h1
    .omega
    .exact lz h1
   simp only[A,this,b8];exact h.fresh p d R lz
  .intro p d R;have:p≠b:=λe=>R (by rw[hγ,e];rfl)
   simp[A,this]
def dv id{k}{T}{xs}{d}{f}{mem}{g}{i}(l:o id mem=ad (.vec k T xs)){b}{a}(m:ze id T xs f=b)(p:v5 id T xs mem=a)
  (s:TR P n d ⟨b,a,g,i⟩ Q):TR P n d ⟨f,mem,g,i⟩ Q:=by
 subst m p
 exact fq (Jz id l) s
def xN t{T}{xs}{d}{b}{mem}{f}{i}(hl:o t b=ad (.c<|.S T xs))(l:Z xs*T.n<=140737488355328->TR P n d ⟨b,mem,f,i⟩ Q):TR P n d ⟨b,mem,f,i⟩ Q:=by intro F m g W a k;have p:de g (.S T xs) (a.tmps.getD t undef):=k.dW t (.c<|.S T xs) Df;let ⟨_,_,_,_,h2,_⟩:=p;exact l h2 F m g W a k
def anl{b}{a}{f i}{d t}{x}{ty}{pos}{p}{os}{u}{mem}{z}{A}{ks}{Q:St->Prop}(B:cE P tt=ae)
 T (m:G) {k}{v}(hx:St.ev ⟨u,mem,z,A⟩ x=ad (.c<|.I k v)) (hv:v=(m:Int)) {D}{ti l}(H:o t tt=ad ti) (hk:ti.kind= .sl D) (N:o D tt=ad l) (W:l.size=T.n)
  (hz:∀g:Gh,a6 g (av T T.eP) (l.zero.map ZV.fU)) (hb:m*l.bytes<=281474976710656) (n6:m*T.n<=140737488355328)
  (cA:RG P n b a f (i+1) os ⟨(d,.c<|.X<|1000000*f+1000*i)::u,(1000000*f+1000*i,.vec D T<|bx m T.eP)::mem,z,A⟩ (ix a ks (bN [x,x],[.s d,.m<|1000000*f+1000*i])) Q) (dG:dZ d n=ae:=by rfl):
  RG P n b a f i (⟨ad d,.makeSlice t x x,ty,pos,p,none⟩::os) ⟨u,mem,z,A⟩ ks Q:=by
 subst hv
 exact nv (λC=>ani B C J J (c7 dG) J hx H hk N T W hz hb n6 _)<|nw cA
def anm{p}{a}{D i}{t}{x l}{ty}{pos}{s}{H}{b}{mem}{d}{f}{N}{Q:St->Prop}(u:cE P tt=ae)
 {g m k}{W}{T}{xs}{vy}(hx:St.ev ⟨b,mem,d,f⟩ x=ad (.c<|.Y g m k 0)) (hl:o g mem=ad (.vec W T xs)) (hy:St.ev ⟨b,mem,d,f⟩ l=ad vy) (hm:T.n=m) {ag}(v:qf tt t=ad (m,ag)) (cH:T.den) (z:l3 vy=ad (av T cH)) (hk:k<Z xs)
  (h:RG P n p a D (i+1) H ⟨b,(g,.vec W T<|xs.set k cH)::mem,d,f⟩ (ix a N (bN [x,l]++da [g],[.m g])) Q):
  RG P n p a D i (⟨none,.store t x l,ty,pos,s,none⟩::H) ⟨b,mem,d,f⟩ N Q:=by
 refine nv (λC=>⟨_,_,aa5 u C J J J hx hy hl hm v z hk _,?_,Nv ⟨b,mem,d,f⟩ g _,?_,λk hk=>kV⟩)<|nw h
 .intro A B;rcases bl.1 B with h|h
  .rcases bl.1 h with h|h
   .exact eQ _ x A h
   .exact eQ _ l A h
  .exact ly _ [g] A h
 .intro k hk;simp only[dL,gf,bl]at hk;rcases hk with(h|h)|h
  .exact eT _<|ff ⟨b,mem,d,f⟩ [x,l] k uV
  .exact eT _<|ff ⟨b,mem,d,f⟩ [x,l] k xH
  .exact gO _<|kE ⟨b,mem,d,f⟩ [g] k h
end
section
variable{P:bW}{tt:TT}{n:G}
def NM:∀(T:ET)(x:T.den),Z (av T x)=T.n
 | .int _,_=>rfl
 | .bool,_=>rfl
 | .z,_=>rfl
 | .q,_=>rfl
 | .sl _,_=>rfl
 | .pr A B,x=>by simp[av,NM A,NM B]
def abq{g:Gh}(T:ET):∀(xs:E T.den)(vs:E aT),a6 g (xs.flatMap<|av T) vs->∀i(h:i<Z xs),dq g.H T xs[i] ((az (i*T.n) vs).take T.n)
 |[],_,_,i,h=>by simp at h
 |x::xs,vs,hr,i,h=>by
  rw[l6]at hr;obtain⟨a,b,rfl,d,f⟩:=IV hr;have k:Z a=T.n:=by rw[d.length,NM]
  cases i with
  |zero=>
   simp[so,sr,xC]
   rw[y6 Y,jM Y]
   exact CR T x a d
  |succ i=>
   simp[C2]
   rw[show(i+1)*T.n=Z a+i*T.n by rw[gY,je];omega,<-se,List.drop_left]
   exact abq T xs b f i fg
def xO(sz:G):G->G->E (G×G)
 |_,0=>[]
 |k,m+1=>(k*sz,sz)::xO sz (k+1) m
def NN(sz:G):∀(m k i:G)(x:G×G),(xO sz k m)[i]? =ad x->x=((k+i)*sz,sz)
 |0,_,_,_,a=>by simp[xO]at a
 |m+1,k,0,x,a=>by simp[xO]at a;simp[<-a]
 |m+1,k,i+1,x,a=>by simp[xO,xB]at a;have:=NN sz m (k+1) i x a;rw[this,(Y:k+1+i=k+(i+1))]
def Ge(l:E C):G->E C
 |0=>[]
 |m+1=>l++Ge l m
def NO{g:Gh}{l:E C}{vs:E aT}(a:a6 g l vs):∀m,a6 g (Ge l m) ((bx m vs).flatten)
 |0=>rfl
 |m+1=>by rw[Bb,NG];exact a6.append a<|NO a m
def abr{l:E C}(d:b6 l=[]):∀m,b6 (Ge l m)=[]
 |0=>rfl
 |m+1=>by
  have:=abr d m;apply T8.2;intro f b;rcases FR _ _ f b with a|a
  .rw[d]at a;cases a
  .rw[this]at a;cases a
def xP(tt:TT)(g:St)(t b:G)(a:E (G×fE)):aw (G×TI×E C):=match o t tt with
 |some i=>(match i.kind with
  | .sl f=>(match o f tt with
   |some d=>(match C9 (xO d.size 0 b) g (Ge (d.zero.map ZV.qP) b) a with
    |some cs=>ad (f,d,cs)
    |none=>none)
   |none=>none)
  |_=>none)
 |none=>none
def abt(cK:cE P tt=ae){hZ}{u:G->Prop}{σ}{g}{W}{a}(N:aR hZ u σ g W a){st}{aG}{t b}{d}(b9:aG.op= .buildSlice t b d){bt}{ei}{T}{xs}(hT:ei.size=T.n)(Q:Z xs=b)(ann:b*T.n<=16777216)
  (l:xP tt st t b d.toList=ad (bt,ei,xs.flatMap<|av T)) (iB:∀kx∈qe st aG.op,σ kx.1=ad kx.2):
  ∃(vs:E aT)(v:G)(W1:cJ),(execOp a.eval aG).run P W= .ok (.value<|.slice (ad ⟨W.heap.size,0,none⟩) (Z xs) v) {W1 with heap:=W.heap.push<|.cells vs.toArray bt (0,0)}/\W1.os=W.os/\W1.tape=W.tape/\W1.output=W.output/\Z vs=v*T.n/\Z xs<=v/\
    ∀i(cA:i<Z xs),dq g.H T xs[i] ((az (i*T.n) vs).take T.n):=by
 unfold xP at l
 split at l
 .rename_i ti w;split at l
  .rename_i U hk;split at l
   .rename_i k ny;split at l
    .rename_i cs I;simp only[aq,bM]at l;obtain⟨rfl,rfl,rfl⟩:=l;have V:=(fw cK w).kind;rw[hk]at V;let ⟨inf,xG,K,_,z,hz,y8⟩:=(fw cK ny).info;have X:z.cells=(k.zero.map ZV.fU).toArray:=FX;let ⟨us,c,jN,hu3,hu4⟩:=Jo N st (xO k.size 0 b) (λi=>ad (i*k.size,k.size)) (λi x cA=>by rw[NN _ _ _ _ _ cA];simp) d.toList _ _ _ I (NO (A4 g k.zero) b) (λp hp kx L=>iB kx<|by rw[b9];refine js.2 ⟨p.2,?_,L⟩;simp only[Op.operands,kd];exact⟨p,hp,J⟩) T9;have A:=jN.length;have M:∀j:E T.den,Z (j.flatMap<|av T)=Z j*T.n:=by
      intro j;induction j with
      |nil=>simp
      |cons cc j ih=>simp[NM,ih,gY,JB]
     rw[M]at A;refine⟨us,Z xs,W,?_,J,J,J,A,aL _,abq T xs us jN⟩;have B:execOp a.eval aG=(do pure (.value<|<-JC t b (d.map λ(i,x)=>(i,a.eval x)))):=xE;have q:(d.map λ(i,x)=>(i,a.eval x)).toList=d.toList.map λp=>(p.1,a.eval p.2):=au
     have C:Z (k.zero.map ZV.fU)=k.size:=Ua;have Y:0<k.size:=by rw[hT];exact T.CP
     have O:(zeroValue U).run P W= .ok z W:=TX;have m:((abk<|b*k.size).map<|λi=>(k.zero.map ZV.fU).toArray[i%(k.zero.map ZV.fU).toArray.size]!)=((bx b<|k.zero.map ZV.fU).flatten).toArray:=by have:=NH (k.zero.map ZV.fU) b (by intro e;rw[e]at C;simp at C;omega);rw[C]at this;exact this
     have hb:(JC t b<|d.map λ(i,x)=>(i,a.eval x)).run P W= .ok (.slice (ad ⟨W.heap.size,0,none⟩) b b) {W with heap:=W.heap.push<|.cells us.toArray U (0,0)}:=by
      unfold JC;rw[dH,run_underlying V];simp only[eo];rw[dH,run_sizeOf xG];simp only[eo,K];rw[y (by rw[hT];omega)];by_cases r:b*k.size=0
      .have D:b=0:=by
        rcases Nat.mul_eq_zero.1 r with cA|cA
        .exact cA
        .omega
       subst D;have R:us=[]:=gx (by rw[A,Q];simp);subst R;have s:=c;simp only[Gf,List.flatten_nil]at s;have S:∀f:G->aT,(abk 0).map f= #[]:=λf=>by simp
       simp only[so,cz,pure_bind,S,q,s];rfl
      .rw[y r];simp only[pure_bind,dH,O,eo,X,m,q,c];rfl
     rw[B,dH,hb,Q];rfl
    .simp at l
   .simp at l
  .simp at l
 .simp at l
def ano{k}{f}{D i}{d t g}{a}{ty}{pos}{p}{H}{u}{mem}{v}{x}{N}{Q:St->Prop}(z:cE P tt=ae)
 T xs {bt}{W}(hv:xP tt ⟨u,mem,v,x⟩ t g a.toList=ad (bt,W,xs.flatMap<|av T)) (hT:W.size=T.n) (l:Z xs=g) (b:fa (g*T.n) 16777216=ae)
  (cA:RG P n k f D (i+1) H ⟨(d,.c<|.S T xs)::u,mem,v,x⟩ (ix f N (bN (Op.buildSlice t g a).operands.toList,[.s d])) Q) (A:dZ d n=ae:=by rfl):
  RG P n k f D i (⟨ad d,.buildSlice t g a,ty,pos,p,none⟩::H) ⟨u,mem,v,x⟩ N Q:=
 nv (λC=>anh C J J (c7 A) _ (by have:=c7 b;rw[l];omega)<|λ_ _ _ _ _ _ m B=>abt z m J hT l (c7 b) hv B) (nw cA)
def anp{k}{f}{l i}{d t g}{a}{ty}{pos}{v}{H}{x}{mem}{z}{A}{N}{Q:St->Prop}(B:cE P tt=ae)
 T xs {W}{ei}(hv:xP tt ⟨x,mem,z,A⟩ t g a.toList=ad (W,ei,xs.flatMap<|av T)) (hT:ei.size=T.n) (p:Z xs=g) (b:fa (g*T.n) 16777216=ae)
  (cA:RG P n k f l (i+1) H ⟨(d,.c<|.X<|1000000*l+1000*i)::x,(1000000*l+1000*i,.vec W T xs)::mem,z,A⟩ (ix f N (bN (Op.buildSlice t g a).operands.toList,[.s d,.m<|1000000*l+1000*i])) Q) (D:dZ d n=ae:=by rfl):
  RG P n k f l i (⟨ad d,.buildSlice t g a,ty,pos,v,none⟩::H) ⟨x,mem,z,A⟩ N Q:=
 nv (λK=>abl K J J (c7 D) _ (by have:=c7 b;rw[p];omega)<|λ_ _ _ _ _ _ u C=>abt B u J hT p (c7 b) hv C) (nw cA)
def abu{g}{T}{f}{v}(cA:de g (.S T f) v):
  ∃d:E aT,(∀W:cJ,Sub g.H W->(Bf T.n (Z f) v).run P W= .ok d.toArray W)/\Z d=Z f*T.n/\(∀i(cA:i<Z f),dq g.H T f[i] ((az (i*T.n) d).take T.n))/\∀u∈d,po u=ae:=by
 obtain⟨a,o,rfl,G,I,s⟩:=cA
 by_cases e:f=[]
 .subst e;refine⟨[],λW _=>?_,au,au,au⟩;cases a with
  |none=>simp[Bf,pure]
  |some a=>simp[Bf,loadCells,loadCellsFrom,pure]
 .rcases s with s|⟨b,off,rfl,s⟩
  .exact aF s e
  .let d:=(bJ<|Z f*T.n).map λk=>(g.H b<|off+k).getD undef
   have t:Z d=Z f*T.n:=by simp[d]
   have l:∀i(B:i<Z f),∃m,Z m=T.n/\dq g.H T f[i] m/\(az (i*T.n) d).take T.n=m/\∀j(C:j<Z m),g.H b (off+(i*T.n+j))=ad m[j]:=by
    intro i B;let ⟨m,hl,hr,hc⟩:=s i B;have D:(i+1)*T.n<=Z f*T.n:=dS _ Y;rw[gY,je]at D;refine⟨m,hl,hr,?_,λj C=>by rw[<-tC];exact hc j C⟩;apply v7
    .simp[d];omega
    .intro j q K;simp[tD,vV,d,Di,NP];rw[<-tC,hc j K];rfl
   have p:∀k(N:k<Z d),∃v,g.H b (off+k)=ad v/\d[k]=v/\po v=ae:=by
    intro k N;have Q:k<Z f*T.n:=Y;have r:k/T.n<Z f:=Bc (by rw[gA];exact Q);have J:k%T.n<T.n:=gU _ T.CP;let ⟨m,hl,hr,z,hc⟩:=l (k/T.n) r;have X:k/T.n*T.n+k%T.n=k:=by rw[gA];exact tJ k T.n
    have:=hc (k%T.n) Y;rw[X]at this;refine⟨_,this,?_,(AS (g:=g) T _ _ hr).one (FV T _) _<|sx _⟩
    .simp[d,Di,NP,this,tK]
   refine⟨d,λW A=>?_,t,λi B=>?_,λu w=>?_⟩
   .simp[Bf,loadCells];have:=run_loadCellsFrom (P:=P) (W:=W) b (Z f*T.n) 0 off d #[] t (λj C=>by let ⟨v,y,c,_⟩:=p j C;rw[jZ,A _ _ _ y,c]);simpa using this
   .let ⟨m,hl,hr,z,_⟩:=l i B;rw[z];exact hr
   .obtain⟨k,N,rfl⟩:=Gg w;let ⟨v,_,c,F⟩:=p k N;rw[c];exact F
def anq{W}{x z ty A H}{d:TypeInfo}(l:P.underlying x=ad (.slice A))(p:P.underlying z=ad (.slice H))(N:P.info? A=ad d){b a f}{s}{m}(Q:(Builtin.lenOf s).run P W= .ok m W)
 {g vs}{B}(t:(Bf d.size m s).run P W= .ok g.toArray W) (T:W.heap[b]? =ad (.cells vs.toArray B (0,0))) (i:∀u∈g,po u=ae) (v:a+m<=f) (D:a*d.size+Z g<=Z vs):
  (zf #[x,z] ty #[.slice (ad ⟨b,0,none⟩) a f,s]).run P W= .ok (.slice (ad ⟨b,0,none⟩) (a+m) f) (jy W b (cR vs g<|a*d.size) B):=by
 have k:=A1 (P:=P) b g W vs (a*d.size) 0 T Y i
 simp only[jZ]at k
 unfold zf
 simp only[vR,oG,xB]
 rw[dH,run_underlying l]
 simp only[eo]
 rw[dH,run_sizeOf N]
 simp only[eo]
 rw[dH,run_underlying p]
 simp only[eo,pure_bind,jx,b8,Gi,cz]
 rw[dH,Q]
 simp only[eo,v,cz]
 rw[dH,t]
 simp only[eo,ns,fD]
 rw[dH,k]
 rfl
def JD(N:G->Prop)(g:Gh)(W:cJ)(d:eI)(T:ET)(xs:E T.den)(v:aT):Prop:=
 (v= .slice none 0 0/\xs=[])\/∃b a,∃vs:E aT,v= .slice (ad ⟨b,0,none⟩) (Z xs) a/\W.heap[b]? =ad (.cells vs.toArray d (0,0))/\
   Z vs=a*T.n/\Z xs<=a/\Z xs*T.n<=140737488355328/\(∀i(h:i<Z xs),dq g.H T xs[i] ((az (i*T.n) vs).take T.n))/\N b/\∀o,g.H b o=none
def abv{a:Type}(vs:E a) n i m(b:i<m):r n ((r (m*n) vs).drop<|i*n)=(az (i*n) vs).take n:=by have d:(i+1)*n<=m*n:=dS _ b;rw[gY,je]at d;rw[List.drop_take,List.take_take];congr 1;omega
def anr{b:Type}(a vs:E b) n m i(d:Z a=m*n)(f:m<=i):r n (az (i*n)<|a++vs)=(az ((i-m)*n) vs).take n:=by have g:m*n<=i*n:=dS _ f;rw[List.drop_append,vX Y,vW,d,Nat.sub_mul]
def abw{b:Type}(a vs:E b) n m i(g:Z a=m*n)(d:i<m):r n (az (i*n)<|a++vs)=(az (i*n) a).take n:=by have f:(i+1)*n<=m*n:=dS _ d;rw[gY,je]at f;rw[C3 Y,y6 cd]
def abx{H}{T}{xs a}{d f rest}(g:Z d=Z xs*T.n)(k:Z f=Z a*T.n)(l:∀i(b:i<Z xs),dq H T xs[i] ((az (i*T.n) d).take T.n))(m:∀i(b:i<Z a),dq H T a[i] ((az (i*T.n) f).take T.n)):
  ∀i(b:i<Z (xs++a)),dq H T (xs++a)[i] (r T.n<|az (i*T.n)<|d++f++rest):=by
 intro i p
 rw[List.getElem_append]
 split
 next b=>rw[nt,abw d _ T.n (Z xs) i g b];exact l i b
 next b=>simp at p;rw[nt,anr d _ T.n (Z xs) i g Y,abw f _ T.n (Z a) _ k Y];exact m _ Y
def ans{N:G->Prop}{g}{W}(p:Sub g.H W){Q E2 t1 t2 ty}{T}{xs m}{v cc}{f:TypeInfo}{z}(Gj:P.underlying t1=ad (.slice Q))(jN:P.underlying t2=ad (.slice E2))(hi:P.info? Q=ad f)(hz:f.zero=ad z)(v8:z.cells.size=f.size)(hT:f.size=T.n)
  (hv:JD N g W Q T xs v) (hy:de g (.S T m) cc) (hb:((Z xs+Z m)+(Z xs+Z m)/4+192)*f.bytes<=281474976710656) (n6:(Z xs+Z m)*T.n<=140737488355328) (hN:N W.heap.size):
  ∃v' s,(zf #[t1,t2] ty #[v,cc]).run P W= .ok v' s/\JD N g s Q T (xs++m) v'/\W.heap.size<=s.heap.size/\(∀k,k<W.heap.size->cO v≠ad k->s.heap[k]? =W.heap[k]?)/\s.os=W.os/\s.tape=W.tape/\s.output=W.output/\Sub g.H s/\(∀k,cO v'=ad k->W.heap.size<=k\/cO v=ad k):=by
 let ⟨us,q,x,L,M⟩:=abu (P:=P) hy
 have A:Sub g.H W.drew:=p
 have K:=q W p
 have X:∀o,g.H W.heap.size o=none:=by
  intro o;cases hv:g.H W.heap.size o with
  |none=>rfl
  |some v=>
   have:=C5 W _<|p _ _ _ hv
   simp at this
 have B:∀w':cJ,(Builtin.lenOf cc).run P w'= .ok (Z m) w':=by obtain⟨a,C,rfl,_⟩:=hy;intro w';rfl
 have D:∀(base:aw Addr)(d:G)(l:E aT),v= .slice base (Z xs) d->(Bf f.size (Z xs)<|.slice base (Z xs) d).run P W.drew= .ok l.toArray W.drew->Z l=Z xs*T.n->(∀i(h:i<Z xs),dq g.H T xs[i] ((az (i*T.n) l).take T.n))->d<Z xs+Z m->
   ∃v' s,(zf #[t1,t2] ty #[v,cc]).run P W= .ok v' s/\JD N g s Q T (xs++m) v'/\W.heap.size<=s.heap.size/\(∀k,k<W.heap.size->cO v≠ad k->s.heap[k]? =W.heap[k]?)/\s.os=W.os/\s.tape=W.tape/\s.output=W.output/\Sub g.H s/\(∀k,cO v'=ad k->W.heap.size<=k\/cO v=ad k):=by
  intro base d l hv U V hor jK
  subst hv
  have Bg:Src P f.size t2 cc (Z m) us W:=⟨.inl ⟨_,jN⟩,B,by rw[hT];exact K,by rw[hT];exact (q W.drew A),by rw[hT];exact x,λu hu=>by have:=M u hu;revert this;cases u<;>simp[po,Value.oneCell']⟩
  have F:((Z xs+Z m:G):Int)<=9223372036854775807:=by have:(Z xs+Z m)*1<=(Z xs+Z m)*T.n:=gD _ T.CP;omega
  have xF:=grownCap_ge W (Z xs+Z m) d Q
  refine⟨_,_,run_append_grow_src (P:=P) W t1 t2 ty Q f z Gj hi hz base (Z xs) d l U cc (Z m) us Bg jK F<|growslice_fits_wide jK hb,.inr ⟨W.heap.size,grownCap W (Z xs+Z m) d Q,l++us++(Builtin.zeroCells z.cells<|grownCap W (Z xs+Z m) d Q-(Z xs+Z m)).toList,au,by rw[show W.heap.size=W.drew.heap.size from J,heap_alloc_new];congr 2;apply FP;simp,?_,by simpa using xF,by simpa using n6,abx V x hor L,hN,X⟩,au,?_,J,J,J,C4 A _,?_⟩
  .simp only[iV,V,x,JE,size_zeroCells,v8,hT,<-gY];congr 1;omega
  .intro k I _;exact heap_alloc_old W.drew _ I
  .intro k I;simp only[cO,aq]at I;exact .inl Y
 rcases hv with⟨rfl,rfl⟩|⟨b,C,vs,rfl,hh,c,hle,az6,hr,hNb,hH⟩
 .by_cases hys:m=[]
  .subst hys;refine⟨.slice none 0 0,W,?_,.inl ⟨J,J⟩,aL _,λ_ _ _=>rfl,J,J,J,p,by simp[cO]⟩;have h0:us=[]:=gx (by simpa using x);subst h0;rw[<-hT]at K;simp[zf,run_underlying Gj,run_underlying jN,sizeOf,typeInfo,hi,B];have h3:(Bf f.size 0 cc).run P W= .ok #[] W:=by simpa using K
   rw[h3];rfl
  .have:=cF.2 hys;exact D none 0 [] J (run_firstCells_none W.drew _ 0 0 0) au au (by simpa using this)
 .by_cases t:Z xs+Z m<=C
  .have nq:b<W.heap.size:=(fY.1 hh).1;have w:Z xs*f.size+Z us<=Z vs:=by rw[x,c,hT,<-gY];exact dS _ t
   refine⟨_,_,anq (P:=P) (ty:=ty) Gj jN hi (B W) (by rw[hT];exact K) hh M t w,.inr ⟨b,C,cR vs us<|Z xs*f.size,au,FQ nq,by rw[y5 _ _ _ w];exact c,by simpa using t,by simpa using n6,?_,hNb,hH⟩,A3,?_,J,J,J,A2 p hH,?_⟩
   .unfold cR;rw[hT];refine abx ?_ x (λi hi=>?_) L
    .simp only[iC];rw[c];have:=dS T.n hle;omega
    .rw[abv _ _ _ _ hi];exact hr i hi
   .intro k _ I;exact y4 (λe=>I<|by simp[cO,e])
   .intro k I;exact .inr I
  .have az7:=dS T.n hle;have JF:(r (Z xs*T.n) vs).length=Z xs*T.n:=by rw[iC,c];omega
   refine D (ad ⟨b,0,none⟩) C (r (Z xs*T.n) vs) J ?_ JF (λi hi=>by rw[abv _ _ _ _ hi];exact hr i hi) Y;rw[hT];refine run_firstCells_some W.drew T.n (Z xs) ⟨b,0,none⟩ (Z xs) C _ JF ?_;intro j u hj;let ⟨FD,xy⟩:=qQ.1 hj;simp only[tD]at xy;simp only[ns,fD];have JG:W.drew.heap[b]? =ad (.cells vs.toArray Q (0,0)):=hh;rw[xD JG j (by simp at FD;omega),xy]
def Gk{a:Act}{f}{b:Builtin}{args}{d}(g:f.op= .call ⟨.builtin b,args,d⟩){W W'}{v}(i:∀k,(Go.builtin b d f.type k<|args.map a.eval).run P W= .ok (.value v) W'):(execOp a.eval f).run P W= .ok (.value v) W':=by rw[execOp,g];simp[resolve,pure_bind,invoke];exact i _
def wa:E G->E (Key×aw Info)
 |[]=>[]
 |id::a=>(.m id,none)::wa a
def Dj:E G->E (G×aA)->E (G×aA)
 |[],l=>l
 |id::a,l=>Dj a<|uU id l
def Ub ids t:aD (wa ids) (.s t)=none:=by
 induction ids with
 |nil=>rfl
 |cons id r a=>simp[wa,aD,a]
def Dk(a:G):∀(b:E G),aD (wa b) (.m a)=if a∈b then ad none else none
 |[]=>by simp[wa,aD]
 |id::d=>by
  simp[wa,aD];by_cases f:id=a
  .simp[f]
  .rw[y f,Dk a d];by_cases h2:a∈d
   .simp[h2]
   .have:¬(a=id\/a∈d):=by rintro(e|e);exact f e.symm;exact h2 e
    rw[y h2,y this]
def abz(a:G):∀(b:E G)(l:E (G×aA)),o a (Dj b l)=if a∈b then none else o a l
 |[],l=>by simp[Dj]
 |id::f,l=>by
  simp[Dj];rw[abz a f,C'];by_cases d:id=a
  .simp[d]
  .have:¬(a=id):=λe=>d e.symm
   simp[d,this]
def anv(a:St) d new ids x b:(⟨(d,x)::a.sl,(new,b)::Dj ids a.mem,a.nx,a.gd⟩:St).kn=bw a.kn ((.s d,ad<|.v x)::(.m new,ad<|.b b)::wa ids):=by
 funext k;cases k with
 |s t=>
  by_cases e:d=t
  .simp[St.kn,o,bw,aD,e]
  .simp[St.kn,o,bw,aD,e,Ub]
 |m j=>
  by_cases e:new=j
  .simp[St.kn,o,bw,aD,e]
  .simp[St.kn,o,bw,aD,e,b8,abz,Dk];split<;>simp
def abA(cK:cE P tt=ae){ops}{i}{aG:a8}{d:G}(ho:ops[i]? =ad aG)(hg:aG.guard=none)(hd:aG.dst=ad d){n}(dG:d<n){x B}{t1 t2}(b9:aG.op= .call ⟨.builtin .append,#[x,B],#[t1,t2]⟩)
 {A}{ids}{bt E2:eI} {T}{xs ys:E T.den} (hx:(∃f,ids=[f]/\A.ev x=ad (.c<|.X f)/\o f A.mem=ad (.vec bt T xs))\/(ids=[]/\A.ev x=ad (.c<|.V<|.slice none 0 0)/\xs=[]))
  (hy:A.ev B=ad (.c<|.S T ys)) {ti ti2 ei:TI} (pq:o t1 tt=ad ti) (D:ti.kind= .sl bt) (anw:o t2 tt=ad ti2) (JA:ti2.kind= .sl E2) (ny:o bt tt=ad ei) (uQ:ei.size=T.n) (NQ:Z ei.zero=T.n)
  (hb:((Z xs+Z ys)+(Z xs+Z ys)/4+192)*ei.bytes<=281474976710656) (n6:(Z xs+Z ys)*T.n<=140737488355328) (l:G):
  mZ P n ops i A ⟨(d,.c<|.X l)::A.sl,(l,.vec bt T<|xs++ys)::Dj ids A.mem,A.nx,A.gd⟩ l (bN [x,B]++da ids,.s d:: .m l::da ids):=by
 refine⟨cQ A x++cQ A B++fZ A ids,(.s d,ad<|.v<|.c<|.X l)::(.m l,ad<|.b<|.vec bt T<|xs++ys)::wa ids,?_,?_,anv A d l ids _ _,?_,?_⟩
 .intro F lM Q known σ g W a K q aX w hK;have wb:de g (.S T ys) (a.eval B):=dY aX A B _ hy<|λO cy=>w O e9;have hv:JD F.N g W bt T xs (a.eval x)/\(∀k,cO (a.eval x)=ad k->∃f b,ids=[f]/\σ (.m f)=ad (.b b)/\cO (g.γ f)=ad k):=by
   rcases hx with⟨f,rfl,hx,hl⟩|⟨rfl,hx,rfl⟩
   .have zg:a.eval x=g.γ f:=dY aX A x _ hx<|λO cy=>w O e9;have I:σ (.m f)=ad (.b<|.vec bt T xs):=w (.m f,.b<|.vec bt T xs) sb;rw[zg];exact⟨aX.cM f _ I,λk D=>⟨f,_,J,I,D⟩⟩
   .have zg:a.eval x= .slice none 0 0:=dY aX A x _ hx<|λO cy=>w O e9;rw[zg];exact⟨.inl ⟨J,J⟩,by simp[cO]⟩
  let ⟨hv,JH⟩:=hv;have h1:=(fw cK pq).kind;rw[D]at h1;have h2:=(fw cK anw).kind;rw[JA]at h2;let ⟨inf,xG,xQ,Gn,z,zh,y8⟩:=(fw cK ny).info;have v8:z.cells.size=inf.size:=by
   have:Z z.cells.toList=Z (ei.zero.map ZV.fU):=by rw[y8]
   simp only[JE,dj]at this;omega
  let ⟨v',W',jL,anx,iu,anz,e1,e2,e3,qZ,NS⟩:=ans (P:=P) (ty:=aG.type) aX.sub h1 h2 xG zh v8 Y hv wb (by rw[Gn];exact hb) n6<|.inl aX.below.size;unfold wpOp;simp only[ho,iv,hg,cz];refine .inl ?_;unfold p';rw[Gk b9 (W':=W') (v:=v') (by have e:(#[x,B]:Array fE).map a.eval= #[a.eval x,a.eval B]:=au;intro cs;rw[e];simp only[Go.builtin,dH,jL,eo];rfl)];simp only[ph,hd];have Dm:d<a.tmps.size:=nX;let M:Gh:=⟨g.H,λf=>if f=l then v' else g.γ f⟩;have Gq:gN known g M:=⟨cL.refl _,λf p=>by
   have:f≠l:=λe=>q<|e▸p
   simp[M,this]⟩
  have R:∀f∈ids,∃b,σ (.m f)=ad (.b b):=by
   intro f p;rcases hx with⟨qi,rfl,hx,hl⟩|⟨rfl,_⟩
   .simp only[iW]at p;subst p;exact⟨_,w (.m f,.b<|.vec bt T xs) sb⟩
   .cases p
  have Dp:∀f∈ids,f≠l:=λf p e=>by let ⟨b,hb⟩:=R f p;exact q<|e▸aX.dX _ _ hb
  refine hK M _ _<|aX.step (chg:=λj=>j∈ids) (g':=M) ⟨Gq,λ_ _ _=>rfl,qZ,iu,?_,e1,e2,e3⟩ _ l q pj aX.defers ?_ ?_ ?_ ?_ ?_ ?_
  .intro k D L;refine anz k D<|λe=>?_;obtain⟨f,b,rfl,I,qj⟩:=JH k e;exact L f au qj
  .intro t ht;have L:d≠t:=uR;simp[iK,l0 L]
  .intro f p;refine⟨?_,R f p⟩;simp only[aD,reduceCtorEq,b8,Key.m.injEq,Dk,p,cz];split<;>simp
  .intro t u ht;simp only[aD]at ht;split at ht
   next e=>simp only[Key.s.injEq]at e;simp only[aq,Info.v.injEq]at ht;subst e;subst ht;simp[iK,Dm,bh,de,M]
   .simp[Ub]at ht
  .intro f b ht;simp only[aD,reduceCtorEq,b8]at ht;split at ht
   .rename_i e;simp only[Key.m.injEq]at e;subst e;simp only[aq,Info.b.injEq]at ht;subst ht;have hr:JD F.N M W' bt T (xs++ys) (M.γ l):=by
     have e:M.γ l=v':=by simp[M]
     rw[e];exact anx
    refine⟨hr,.inr ⟨J,λk D=>?_⟩⟩;simp only[M,cz]at D;rcases NS k D with h|h
    .exact .inl h
    .let ⟨f,b,U,I,qj⟩:=JH k h;refine .inr ⟨f,b,I,?_,qj⟩;simp only[aD,reduceCtorEq,b8,Key.m.injEq,Ne.symm<|Dp f (by simp[U]),Dk];simp[U]
   .rw[Dk]at ht;split at ht<;>simp at ht
  .intro k B ht;simp only[aD]at ht;split at ht
   .simp only[aq]at ht;subst ht;intro f p;simp[Info.ak,AV.ak,C.ak]at p;exact .inr p
   .split at ht
    .simp only[aq]at ht;subst ht;intro f p;simp[Info.ak,aA.ak]at p
    .cases k with
     |s t=>simp[Ub]at ht
     |m j=>rw[Dk]at ht;split at ht<;>simp at ht
  .intro f B ht;simp only[aD,reduceCtorEq,b8]at ht;split at ht
   next e=>simp only[Key.m.injEq]at e;exact .inr e.symm
   .rw[Dk]at ht;split at ht<;>simp at ht
 .intro O cy;rcases bl.1 cy with h|h
  .rcases bl.1 h with h|h
   .exact eQ _ x O h
   .exact eQ _ B O h
  .exact ly _ ids O h
 .intro k D;simp only[dL,gf,bl]at D;rcases D with(h|h)|h
  .exact eT _<|ff A [x,B] k uV
  .exact eT _<|ff A [x,B] k xH
  .exact gO _<|kE A ids k h
 .have hd:∀ids:E G,gw (wa ids)=da ids:=by
   intro ids;induction ids with
   |nil=>rfl
   |cons f r ih=>simp only[wa,gw,gX,da]at ih⊢;rw[ih]
  intro k D;have:gw ((.s d,ad<|.v<|.c<|.X l)::(.m l,ad<|.b<|.vec bt T<|xs++ys)::wa ids)= .s d:: .m l::da ids:=by rw[<-hd ids];rfl
  rw[<-this];exact D
def anA{f}{a}{g i}{d}{x B}{t1 t2 ty:eI}{pos}{D}{os}{t}{mem}{u}{v}{ks}{Q:St->Prop}(H:cE P tt=ae)
 {b}{z E2:eI} {T}{xs k}(hx:St.ev ⟨t,mem,u,v⟩ x=ad (.c<|.X b)) (hl:o b mem=ad (.vec z T xs))
  (hy:St.ev ⟨t,mem,u,v⟩ B=ad (.c<|.S T k)) {ti l A}(N:o t1 tt=ad ti) (hk:ti.kind= .sl z) (p:o t2 tt=ad l) (W:l.kind= .sl E2) (ny:o z tt=ad A) (uQ:A.size=T.n) (NQ:Z A.zero=T.n)
  (hb:((Z xs+Z k)+(Z xs+Z k)/4+192)*A.bytes<=281474976710656) (n6:(Z xs+Z k)*T.n<=140737488355328)
  (cA:RG P n f a g (i+1) os ⟨(d,.c<|.X<|1000000*g+1000*i)::t,(1000000*g+1000*i,.vec z T<|xs++k)::uU b mem,u,v⟩ (ix a ks (bN [x,B]++da [b],[.s d,.m<|1000000*g+1000*i,.m b])) Q) (dG:dZ d n=ae:=by rfl):
  RG P n f a g i (⟨ad d,.call ⟨.builtin .append,#[x,B],#[t1,t2]⟩,ty,pos,D,none⟩::os) ⟨t,mem,u,v⟩ ks Q:=
 nv (λC=>abA H C J J (c7 dG) J (.inl ⟨b,J,hx,hl⟩) hy N hk p W ny uQ NQ hb n6 _) (nw cA)
def anB{b}{a}{f i}{d}{x z}{t1 t2 ty:eI}{pos}{A}{os}{p}{mem}{t}{u}{ks}{Q:St->Prop}(B:cE P tt=ae)
  {D E2:eI} {T}{g}(hx:St.ev ⟨p,mem,t,u⟩ x=ad (.c<|.V<|.slice none 0 0))
  (hy:St.ev ⟨p,mem,t,u⟩ z=ad (.c<|.S T g)) {ti k v}(H:o t1 tt=ad ti) (hk:ti.kind= .sl D) (l:o t2 tt=ad k) (N:k.kind= .sl E2) (W:o D tt=ad v) (uQ:v.size=T.n) (NQ:Z v.zero=T.n)
  (hb:(Z g+Z g/4+192)*v.bytes<=281474976710656) (n6:Z g*T.n<=140737488355328)
  (cA:RG P n b a f (i+1) os ⟨(d,.c<|.X<|1000000*f+1000*i)::p,(1000000*f+1000*i,.vec D T g)::mem,t,u⟩ (ix a ks (bN [x,z],[.s d,.m<|1000000*f+1000*i])) Q) (dG:dZ d n=ae:=by rfl):
  RG P n b a f i (⟨ad d,.call ⟨.builtin .append,#[x,z],#[t1,t2]⟩,ty,pos,A,none⟩::os) ⟨p,mem,t,u⟩ ks Q:=
 nv (λC=>abA (xs:=[]) (ids:=[]) B C J J (c7 dG) J (.inr ⟨J,hx,J⟩) hy H hk l N W uQ NQ tH (by simpa using n6) _) (nw<|by simpa[da,Dj]using cA)
end
end Go.El
