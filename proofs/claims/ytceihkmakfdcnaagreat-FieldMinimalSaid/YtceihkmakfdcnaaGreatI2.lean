/- Own work; no condition. -/
import Derived.KernelRfl
import Derived.Deep.DeepAppendWide
import Derived.Deep.AppendSrc
import Derived.Test.YtceihkmakfdcnaaGreatI1
set_option linter.all false
set_option maxHeartbeats 16000000
set_option maxRecDepth 100000
open Array renaming range->Z4
open Bool renaming true->af,false->ak
open Go renaming Program->bO,Operand->ff,Value->aT,World->cA,Oper->a8,ResultVar->Au,TypeId->eh
open Go.Act renaming put->iq
open Go.Builtin renaming firstCells->Az,append_->yz
open Go.El renaming iA->L
open Go.Exit renaming inBlock->Fi
open Go.Instr renaming build->Iz,buildSlice->IL
open Go.Oper renaming wp->pG,upon->oL
open Go.Region renaming wanted->gZ,binds->ve
open Go.Result renaming andThen->dM
open Go.Sem renaming run_bind->dq
open Go.World renaming block_lt_of_cell?->Cm
open List renaming length->Z,getD->I,take->c,drop->az,range->cy,replicate->bt,getElem_toArray->alA
open Nat renaming testBit->oa,ble->eL,blt->dK
open Option renaming some->ae
open _root_ renaming Nat->G,List->E,Option->aw
namespace Go.El
open Go Go.RowKit
section
variable{P:bO}{tt:TT}{n:G}
def Cp(a:E (G×G))(b:St):E C->E (G×ff)->aw (E C)
 |cs,[]=>ae cs
 |cs,(i,x)::d=>(match a[i]?,b.ev x with
  |some (off,sz),ae v=>(match lP v with
   |some us=>if Z us=sz/\off+sz<=Z cs/\us.all lz=af then Cp a b (cK cs us off) d else none
   |none=>none)
  |_,_=>none)
def alm us:∀(vs:E aT)(a k:G),a+k+Z us<=Z vs->(us.zipIdx k).foldl (λ(b:Array aT)(p:aT×G)=>b.setIfInBounds (a+p.2) p.1) vs.toArray=(cK vs us<|a+k).toArray:=by
 induction us with
 |nil=>intro vs a k _;simp[cK]
 |cons u us d=>
  intro vs a k h
  simp only[iK]at h
  simp only[List.zipIdx_cons,MC]
  have:vs.toArray.setIfInBounds (a+k) u=(vs.set (a+k) u).toArray:=ax
  rw[this,d (vs.set (a+k) u) a (k+1) b6]
  rw[(Y:a+(k+1)=a+k+1),ZK _ _ _ _ Y]
def Ix{gP:dB}{d:G->Prop}{σ:Kn}{g:Gh}{W:cA}{a:Act}(A:aM gP d σ g W a)(Q:St)(pl:E (G×G))(k:G->aw (G×G))(T:∀i x,pl[i]? =ae x->k i=ae x):
  ∀(b:E (G×ff))(u l:E C)(vs:E aT),Cp pl Q u b=ae l->a4 g u vs->(∀p∈b,∀kx∈cH Q p.2,σ kx.1=ae kx.2)->(∀z∈b8 u,d z)->
   ∃N:E aT,Instr.fill k vs.toArray (b.map λp=>(p.1,a.eval p.2))=ae N.toArray/\a4 g l N/\Z N=Z vs/\∀z∈b8 l,d z
 |[],u,l,vs,s,hr,_,hm=>by simp only[Cp,ar]at s;subst s;exact⟨vs,J,hr,J,hm⟩
 | (i,x)::b,u,l,vs,s,hr,B,hm=>by
  simp only[Cp]at s;split at s
  .rename_i f sz v hp hv;split at s
   .rename_i N m;split at s
    .rename_i D;let ⟨h1,h2,h3⟩:=D;have K:=dJ A Q x v hv<|B (i,x) ax;have X:=sH A Q x v hv<|B (i,x) ax;let ⟨ws,r,o⟩:=My m K<|λc w=>nw.1 h3 c w;have R:=hr.length;have S:=o.length;have H:∀z∈b8 (cK u N f),d z:=by
      intro z y;rcases EY _ _ _ z y with A|A
      .exact hm z A
      .refine X z ?_;cases v with
       |c q=>simp only[lP,ar]at m;subst m;simpa[b8,AV.al]using A
       |a q=>simp only[lP,ar]at m;subst m;exact A
       |t q=>simp[lP]at m
     let ⟨U,I,L,M,O⟩:=Ix A Q pl k T b (cK u N f) l (cK vs ws f) s (hr.cK o f) (λp hp=>B p<|by simp[hp]) H;refine⟨U,?_,L,by rw[M,yn _ _ _ Y],O⟩;simp only[gM,Instr.fill,T i _ hp,r];have w:¬((ws.toArray.size≠sz||decide (f+ws.toArray.size>vs.toArray.size))=af):=by simp;omega
     rw[j (by simpa using w)];have:=alm ws vs f 0 Y;simp only[jZ]at this;have e:ws.toArray.zipIdx.foldl (λ(u:Array aT)(p:aT×G)=>u.setIfInBounds (f+p.2) p.1) vs.toArray=(cK vs ws f).toArray:=by rw[<-this];simp
     rw[<-I];congr 1
    .simp at s
   .simp at s
  .simp at s
def ME(a:TI):E (G×G):=a.fields.map λf=>(f.1,f.2.1)
def SO(tt:TT)(f:St)(t:G)(b:E (G×ff)):aw AV:=match L t tt with
 |some d=>(match d.kind with
  | .st=>(match Cp (ME d) f (d.zero.map ZV.qm) b with|some cs=>ae (.a cs)|none=>none)
  |_=>none)
 |none=>none
def MF(a:E ZV):b8 (a.map ZV.qm)=[]:=by
 induction a with
 |nil=>rfl
 |cons z a b=>simp only[gM,b8,b];cases z<;>rfl
def aln(s:True){d}{a:Array Field}(g:tW P d.fields a.toList=af) W:∃iv:Array (G×G),(a.mapM λf=>(do pure (f.offset,<-sizeOf f.type):Go.Sem (G×G))).run P W= .ok iv W/\∀(i:G)(x:G×G),(ME d)[i]? =ae x->iv[i]? =ae x:=by
 have m:∀(l:E (G×G×Bool))(a:E Field),tW P l a=af->(a.mapM λf=>(do pure (f.offset,<-sizeOf f.type):Go.Sem (G×G))).run P W= .ok (l.map λf=>(f.1,f.2.1)) W:=by
  intro l;induction l with
  |nil=>intro a h;cases a with
   |nil=>simp[pure]
   |cons f a=>simp[tW]at h
  |cons p l t=>
   intro a h
   let ⟨off,sz,B⟩:=p
   cases a with
   |nil=>simp[tW]at h
   |cons f a=>
    let ⟨C,b,u,⟨i,v,z⟩,_⟩:=Ml h (k:=0) J
    simp only[n9,ar]at b
    subst b
    simp only[tW,cG]at h
    have:=t a h.2
    rw[Iy]
    simp only[dq,run_sizeOf v,dM,Sem.run_pure,this,z,u,gM]
 refine⟨(ME d).toArray,?_,λi x h=>eQ⟩;have A:a.mapM (λf=>(do pure (f.offset,<-sizeOf f.type):Go.Sem (G×G)))=Functor.map List.toArray (a.toList.mapM<|λf=>(do pure (f.offset,<-sizeOf f.type):Go.Sem (G×G))):=by simp[Array.mapM_eq_mapM_toList]
 rw[A];simp only[map_eq_pure_bind,dq,m d.fields a.toList g,dM];rfl
def alo(m:cw P tt=af){u}{i}{l:a8}{d:G}(ho:u[i]? =ae l)(hg:l.guard=none)(hd:l.dst=ae d){n}(N:d<n){t}{b}(bW:l.op= .build t b)
 {Q}{v}(f:SO tt Q t b.toList=ae v) new:iJ P n u i (pI Q l.op) [(.s d,ae<|.v v)] new:=by
 refine tX ho hg hd N _ v new ?_
 intro F T U g W a A X
 unfold SO at f
 split at f
 .rename_i K B;split at f
  .rename_i E;split at f
   .rename_i I c;simp only[ar]at f;subst f;have y:=(fb m B).kind;rw[E]at y;let ⟨fs,hu,e⟩:=y;let ⟨inf,xb,_,_,z,hz,yq⟩:=(fb m B).info;let ⟨iv,C,D⟩:=aln (P:=P) M e W;let ⟨us,h,jz,L,j⟩:=Ix A Q (ME K) (iv[·]?) D b.toList (K.zero.map ZV.qm) I (K.zero.map ZV.fC) c (Ao g _) (λp O R q=>X R<|by rw[bW];refine iY.2 ⟨p.2,?_,q⟩;simp only[Op.operands];simp only[kf];exact⟨p,O,J⟩) (by rw[MF];simp);refine⟨j,.agg us.toArray,?_,us,J,jz⟩;have H:z.cells=(K.zero.map ZV.fC).toArray:=E6;have k:execOp a.eval l=(do pure (.value<|<-Iz t (b.map λ(i,x)=>(i,a.eval x)))):=w8;have r:(b.map λ(i,x)=>(i,a.eval x)).toList=b.toList.map λp=>(p.1,a.eval p.2):=ax
    have w:(zeroValue t).run P W= .ok z W:=SP;have S:(Iz t<|b.map λ(i,x)=>(i,a.eval x)).run P W= .ok (.agg us.toArray) W:=by unfold Iz;rw[dq,w];simp only[dM];rw[dq,run_underlying hu];simp only[dM];rw[dq,C];simp only[dM,r,H,h];rfl
    rw[k,dq,S];rfl
   .simp at f
  .simp at f
 .simp at f
end
section
variable{P:bO}{tt:TT}
def eC st x:∀a∈cH st x,st.kn a.1=ae a.2:=by
 intro a h;cases x with
 |tmp t=>
  simp only[cH]at h
  split at h
  .rename_i v b;simp only[iM]at h;subst h;simp[St.kn,b]
  .simp at h
 |_=>simp[cH]at h
def k9 st ids:∀a∈fK st ids,st.kn a.1=ae a.2:=by
 intro a h;let ⟨id,_,h⟩:=iY.1 h;split at h
 .rename_i b d;simp only[iM]at h;subst h;simp[St.kn,d]
 .simp at h
def sM st(op:Op):∀a∈pI st op,st.kn a.1=ae a.2:=by intro a h;let ⟨x,_,h⟩:=iY.1 h;exact eC st x a h
def St.put(a:St)(d:G)(x:AV):St:={a with sl:=(d,x)::a.sl}
def St.pm(a:St)(d:G)(b:aC):St:={a with mem:=(d,b)::a.mem}
def ud{a:Type}(t:G):E (G×a)->E (G×a)
 |[]=>[]
 | (k,x)::b=>if k=t then ud t b else(k,x)::ud t b
def St.del(a:St)(d:G):St:={a with sl:=ud d a.sl}
def Cq{f:Type}(t k:G):∀l:E (G×f),L k (ud t l)=if t=k then none else L k l
 |[]=>by simp[ud,L]
 | (g,x)::d=>by
  simp only[ud];split
  .rename_i a;subst a;rw[Cq g k d];split
   .rfl
   .rename_i b;simp[L,b]
  .rename_i a;simp only[L];split
   .rename_i i;subst i;rw[j (λb=>a b.symm)]
   .exact Cq t k d
def qo(a:St) d x:(a.put d x).kn=bs a.kn [(.s d,ae<|.v x)]:=by
 funext k;cases k with
 |s t=>
  by_cases e:d=t
  .simp[St.kn,St.put,L,bs,aE,e]
  .simp[St.kn,St.put,L,bs,aE,e]
 |m id=>simp[St.kn,St.put,bs,aE]
def MG(a:St) d x:(a.pm d x).kn=bs a.kn [(.m d,ae<|.b x)]:=by
 funext k;cases k with
 |s t=>simp[St.kn,St.pm,bs,aE]
 |m id=>
  by_cases e:d=id
  .simp[St.kn,St.pm,L,bs,aE,e]
  .simp[St.kn,St.pm,L,bs,aE,e]
def E7(a:St) d id x b:((a.pm id b).put d x).kn=bs a.kn [(.s d,ae<|.v x),(.m id,ae<|.b b)]:=by
 funext k;cases k with
 |s t=>
  by_cases e:d=t
  .simp[St.kn,St.put,St.pm,L,bs,aE,e]
  .simp[St.kn,St.put,St.pm,L,bs,aE,e]
 |m j=>
  by_cases e:id=j
  .simp[St.kn,St.put,St.pm,L,bs,aE,e]
  .simp[St.kn,St.put,St.pm,L,bs,aE,e]
def ZQ(a:St) d:(a.del d).kn=bs a.kn [(.s d,none)]:=by
 funext k;cases k with
 |s t=>
  by_cases e:d=t
  .simp[St.kn,St.del,Cq,bs,aE,e]
  .simp[St.kn,St.del,Cq,bs,aE,e]
 |m id=>simp[St.kn,St.del,bs,aE]
abbrev Ks:=E Key×E Key
def bH:E ff->E Key
 |[]=>[]
 | .tmp t::a=> .s t::bH a
 |_::a=>bH a
def cV:E G->E Key
 |[]=>[]
 |id::a=> .m id::cV a
def eP(b:St):∀(xs:E ff),∀k∈dz (xs.flatMap<|cH b),k∈bH xs
 |[],k,a=>by simp[dz]at a
 |x::xs,k,a=>by
  simp only[dz,lQ,fL,bg]at a;rcases a with a|a
  .cases x with
   |tmp t=>
    simp only[cH]at a
    split at a
    .simp at a;subst a;simp[bH]
    .simp at a
   |_=>simp[cH]at a
  .have:=eP b xs k a;cases x<;>simp[bH,this]
def kg(d:St):∀(b:E G),∀k∈dz (fK d b),k∈cV b
 |[],k,a=>by simp[dz,fK]at a
 |id::b,k,a=>by
  simp only[dz,fK,lQ,fL,bg]at a;rcases a with a|a
  .split at a
   .simp at a;subst a;simp[cV]
   .simp at a
  .have:=kg d b k a;simp[cV,this]
def E8(tt:TT)(n a:G)(i:aw G)(op:Op):St->aw (St×Pr×Ks)
 |⟨sl,mem,nx,gd⟩=>match i,op with
 |some d,.load t x=>if d<n then(match St.ev ⟨sl,mem,nx,gd⟩ x with
   |some v=>(match Ip tt ⟨sl,mem,nx,gd⟩ t v with
    |some (b,p,ids)=>ae (⟨(d,b)::sl,mem,nx,gd⟩,p,(bH [x]++cV ids,[.s d]))
    |none=>none)
   |none=>none)else none
 |none,.store t x b=>(match St.ev ⟨sl,mem,nx,gd⟩ x,St.ev ⟨sl,mem,nx,gd⟩ b with
   |some (.c<|.Y id m k 0),ae f=>(match L id mem,pJ tt t,lP f with
    |some (.vec g T xs),ae (sz,_),ae cs=>if T.n=m/\sz=m then(match It T cs with
     |some z=>ae (⟨sl,(id,.vec g T<|xs.set k z)::mem,nx,gd⟩,.Cc k<|Z xs,(bH [x,b]++cV [id],[.m id]))
     |none=>none)else none
    |_,_,_=>none)
   |some A,ae f=>(match Is tt ⟨sl,mem,nx,gd⟩ t A f with
    |some (id,B)=>ae (⟨sl,(id,B)::mem,nx,gd⟩,.t,(bH [x,b]++cV [id],[.m id]))
    |none=>none)
   |_,_=>none)
 |some d,.indexAddr t x b=>if d<n then(match St.ev ⟨sl,mem,nx,gd⟩ x,St.ev ⟨sl,mem,nx,gd⟩ b with
   |some (.c<|.X id),ae f=>(match SJ tt ⟨sl,mem,nx,gd⟩ t id f with
    |some (v,p)=>ae (⟨(d,v)::sl,mem,nx,gd⟩,p,(bH [x,b]++cV [id],[.s d]))
    |none=>none)
   |some (.c<|.W id off len),ae f=>(match SL tt ⟨sl,mem,nx,gd⟩ t id off len f with
    |some (v,p)=>ae (⟨(d,v)::sl,mem,nx,gd⟩,p,(bH [x,b]++cV [id],[.s d]))
    |none=>none)
   |some _,ae _=>(match vi tt ⟨sl,mem,nx,gd⟩ (.indexAddr t x b)with
    |some (v,p)=>ae (⟨(d,v)::sl,mem,nx,gd⟩,p,(bH [x,b],[.s d]))
    |none=>none)
   |_,_=>none)else none
 |some d,.build t parts=>if d<n then(match SO tt ⟨sl,mem,nx,gd⟩ t parts.toList with
   |some v=>ae (⟨(d,v)::sl,mem,nx,gd⟩,.t,(bH (Op.build t parts).operands.toList,[.s d]))
   |none=>none)else none
 |some d,.call ⟨.builtin .len,args,l⟩=>if d<n then(match args.toList,l.toList with
   |[x],[t]=>(match St.ev ⟨sl,mem,nx,gd⟩ x with
    |some (.c<|.X id)=>(match SM tt ⟨sl,mem,nx,gd⟩ t id with
     |some v=>ae (⟨(d,v)::sl,mem,nx,gd⟩,.t,(bH [x]++cV [id],[.s d]))
     |none=>none)
    |some v=>(match Ie tt t v with
     |some u=>ae (⟨(d,u)::sl,mem,nx,gd⟩,.t,(bH [x],[.s d]))
     |none=>none)
    |none=>none)
   |_,_=>none)else none
 |some d,.box g x=>if d<n then(match St.ev ⟨sl,mem,nx,gd⟩ x with
   |some v=>(match lP v with
    |some cs=>if cs.all lz=af then ae (⟨(d,.c<|.P a 0)::sl,(a,.box g 0 cs)::mem,nx,gd⟩,.t,(bH [x],[.s d,.m a]))else none
    |none=>none)
   |none=>none)else none
 |some d,.alloc g=>if d<n then(match L g tt with
   |some D=>ae (⟨(d,.c<|.P a 0)::sl,(a,.box g 0<|D.zero.map ZV.qm)::mem,nx,gd⟩,.t,([],[.s d,.m a]))
   |none=>none)else none
 |some d,op=>if d<n then(match vi tt ⟨sl,mem,nx,gd⟩ op with
   |some (x,p)=>ae (⟨(d,x)::sl,mem,nx,gd⟩,p,(bH op.operands.toList,[.s d]))
   |none=>none)else none
 |none,_=>none
def mu(P:bO)(n:G)(a:Array a8)(i:G)(l b:St)(d:G)(m:Ks):Prop:=
 ∃f g,iJ P n a i f g d/\(∀p∈f,l.kn p.1=ae p.2)/\b.kn=bs l.kn g/\(∀k∈dz f,k∈m.1)/\∀k∈fR g,k∈m.2
def MH(l:cw P tt=af){n b}{ops}{i}{o}(D:ops[i]? =ae o)(H:o.guard=none){st st'}{p}{ks}
  (h:E8 tt n b o.dst o.op st=ae (st',p,ks)) (hp:p):mu P n ops i st st' b ks:=by
 let ⟨sl,mem,nx,gd⟩:=st
 simp only[E8]at h
 split at h
 .rename_i d t x z a;split at h
  .rename_i f;split at h
   .rename_i v j;split at h
    .rename_i y q r G;simp only[ar,bQ]at h;obtain⟨rfl,rfl,rfl⟩:=h;refine⟨_,_,ZI l D H z f a j G hp b,?_,qo ⟨sl,mem,nx,gd⟩ d y,?_,λk hk=>kK⟩
     .intro s A;rcases bg.1 A with h|h
      .exact eC _ x s h
      .exact k9 _ r s h
     .intro k hk;simp only[dz,fL,bg]at hk;rcases hk with h|h
      .exact eH _<|eP ⟨sl,mem,nx,gd⟩ [x] k MI
      .exact gx _<|kg ⟨sl,mem,nx,gd⟩ r k h
    .simp at h
   .simp at h
  .simp at h
 .rename_i t x y z a;have K:∀g k,k∈dz (cH ⟨sl,mem,nx,gd⟩ x++cH ⟨sl,mem,nx,gd⟩ y++fK ⟨sl,mem,nx,gd⟩ [g])->k∈bH [x,y]++cV [g]:=by
   intro g k hk;simp only[dz,fL,bg]at hk;rcases hk with(h|h)|h
   .exact eH _<|eP ⟨sl,mem,nx,gd⟩ [x,y] k uf
   .exact eH _<|eP ⟨sl,mem,nx,gd⟩ [x,y] k xc
   .exact gx _<|kg ⟨sl,mem,nx,gd⟩ [g] k h
  have C:∀g,∀s∈cH ⟨sl,mem,nx,gd⟩ x++cH ⟨sl,mem,nx,gd⟩ y++fK ⟨sl,mem,nx,gd⟩ [g],St.kn ⟨sl,mem,nx,gd⟩ s.1=ae s.2:=by
   intro g s A;rcases bg.1 A with h|h
   .rcases bg.1 h with h|h
    .exact eC _ x s h
    .exact eC _ y s h
   .exact k9 _ [g] s h
  split at h
  .rename_i g m k I B N;split at h
   .rename_i E T xs sz ag U G J Q;split at h
    .rename_i W;split at h
     .rename_i e X;simp only[ar,bQ]at h;obtain⟨rfl,rfl,rfl⟩:=h;let ⟨V,h2⟩:=W;subst h2;have w:=ali X;subst w;exact⟨_,_,ZO l D H z a B N G V J Q hp b,C g,MG ⟨sl,mem,nx,gd⟩ g _,K g,λk hk=>kK⟩
     .simp at h
    .simp at h
   .simp at h
  .rename_i vx I B N;split at h
   .rename_i g Y Z;simp only[ar,bQ]at h;obtain⟨rfl,rfl,rfl⟩:=h;exact⟨_,_,ZL l D H z a B N Z b,C g,MG ⟨sl,mem,nx,gd⟩ g Y,K g,λk hk=>kK⟩
   .simp at h
  .simp at h
 .rename_i d t x y z a;split at h
  .rename_i f;split at h
   .rename_i g I B N;split at h
    .rename_i v q X;simp only[ar,bQ]at h;obtain⟨rfl,rfl,rfl⟩:=h;refine⟨_,_,alf l D H z f a B N X hp b,?_,qo ⟨sl,mem,nx,gd⟩ d _,?_,λk hk=>kK⟩
     .intro s A;rcases bg.1 A with h|h
      .rcases bg.1 h with h|h
       .exact eC _ x s h
       .exact eC _ y s h
      .exact k9 _ [g] s h
     .intro k hk;simp only[dz,fL,bg]at hk;rcases hk with(h|h)|h
      .exact eH _<|eP ⟨sl,mem,nx,gd⟩ [x,y] k uf
      .exact eH _<|eP ⟨sl,mem,nx,gd⟩ [x,y] k xc
      .exact gx _<|kg ⟨sl,mem,nx,gd⟩ [g] k h
    .simp at h
   .rename_i g off len I B N;split at h
    .rename_i v q X;simp only[ar,bQ]at h;obtain⟨rfl,rfl,rfl⟩:=h;refine⟨_,_,alg l D H z f a B N X hp b,?_,qo ⟨sl,mem,nx,gd⟩ d _,?_,λk hk=>kK⟩
     .intro s A;rcases bg.1 A with h|h
      .rcases bg.1 h with h|h
       .exact eC _ x s h
       .exact eC _ y s h
      .exact k9 _ [g] s h
     .intro k hk;simp only[dz,fL,bg]at hk;rcases hk with(h|h)|h
      .exact eH _<|eP ⟨sl,mem,nx,gd⟩ [x,y] k uf
      .exact eH _<|eP ⟨sl,mem,nx,gd⟩ [x,y] k xc
      .exact gx _<|kg ⟨sl,mem,nx,gd⟩ [g] k h
    .simp at h
   .split at h
    .rename_i v q B;simp only[ar,bQ]at h;obtain⟨rfl,rfl,rfl⟩:=h;refine⟨_,_,Mv l D H z f (by rw[a];exact B) hp b,sM _ _,qo ⟨sl,mem,nx,gd⟩ _ _,λk hk=>?_,λk hk=>kK⟩;rw[a]at hk;exact eP ⟨sl,mem,nx,gd⟩ _ k hk
    .simp at h
   .simp at h
  .simp at h
 .rename_i d t L z a;split at h
  .rename_i f;split at h
   .rename_i v j;simp only[ar,bQ]at h;obtain⟨rfl,rfl,rfl⟩:=h;refine⟨_,_,alo l D H z f a j b,sM _ _,qo ⟨sl,mem,nx,gd⟩ _ _,λk hk=>?_,λk hk=>kK⟩;rw[a]at hk;exact eP ⟨sl,mem,nx,gd⟩ _ k hk
   .simp at h
  .simp at h
 .rename_i d args O z a;split at h
  .rename_i f;split at h
   .rename_i x t ha ht;have c:args= #[x]:=Il;have F:O= #[t]:=SD;subst c F;split at h
    .rename_i g B;split at h
     .rename_i v X;simp only[ar,bQ]at h;obtain⟨rfl,rfl,rfl⟩:=h;refine⟨_,_,alh l D H z f a B X b,?_,qo ⟨sl,mem,nx,gd⟩ d _,?_,λk hk=>kK⟩
      .intro s A;rcases bg.1 A with h|h
       .exact eC _ x s h
       .exact k9 _ [g] s h
      .intro k hk;simp only[dz,fL,bg]at hk;rcases hk with h|h
       .exact eH _<|eP ⟨sl,mem,nx,gd⟩ [x] k MI
       .exact gx _<|kg ⟨sl,mem,nx,gd⟩ [g] k h
     .simp at h
    .rename_i v B;split at h
     .rename_i u hu;simp only[ar,bQ]at h;obtain⟨rfl,rfl,rfl⟩:=h;refine⟨_,_,Mv l D H z f (x:=u) (p:= .t) (st:=⟨sl,mem,nx,gd⟩) (by rw[a];simp[vi,B,hu]) M b,sM _ _,qo ⟨sl,mem,nx,gd⟩ _ _,λk hk=>?_,λk hk=>kK⟩;rw[a]at hk;exact eP ⟨sl,mem,nx,gd⟩ [x] k hk
     .simp at h
    .simp at h
   .simp at h
  .simp at h
 .rename_i d E x z a;split at h
  .rename_i f;split at h
   .rename_i v j;split at h
    .rename_i U Q;split at h
     .rename_i R;simp only[ar,bQ]at h;obtain⟨rfl,rfl,rfl⟩:=h;exact⟨_,_,ald D H z f a j Q R b,eC _ x,E7 ⟨sl,mem,nx,gd⟩ d b _ _,λk hk=>eP ⟨sl,mem,nx,gd⟩ [x] k (by simpa[dz]using hk),λk hk=>kK⟩
     .simp at h
    .simp at h
   .simp at h
  .simp at h
 .rename_i d E z a;split at h
  .rename_i f;split at h
   .rename_i ti S;simp only[ar,bQ]at h;obtain⟨rfl,rfl,rfl⟩:=h;exact⟨_,_,ale l D H z f a S b,ax,E7 ⟨sl,mem,nx,gd⟩ d b _ _,by simp[dz],λk hk=>kK⟩
   .simp at h
  .simp at h
 .rename_i d _ z _ _ _ _ _ _;split at h
  .rename_i f;split at h
   .rename_i x q B;simp only[ar,bQ]at h;obtain⟨rfl,rfl,rfl⟩:=h;exact⟨_,_,Mv l D H z f B hp b,sM _ _,qo ⟨sl,mem,nx,gd⟩ _ x,λk hk=>eP ⟨sl,mem,nx,gd⟩ _ k hk,λk hk=>kK⟩
   .simp at h
  .simp at h
 .simp at h
def sQ(a:E a8)(b:G):aw G:=match a[b]? with
 |some o=>o.dst
 |none=>none
def E9{d}{l f}(i:sQ d.toList l=ae f){g}{a:Act}{b}(p:bf g (.c<|.B b) (a.tmps.getD f undef)):yielded d a.tmps l=ae b:=by
 have m:a.tmps.getD f undef= .bool b:=p;have:(d[l]?).bind (·.dst)=ae f:=by
  unfold sQ at i;rw[Fa]at i;cases ho:d[l]? with
  |none=>rw[ho]at i;simp at i
  |some s=>rw[ho]at i;simpa using i
 unfold yielded;rw[this];rcases rq f a.tmps.size with k|n
 .have:a.tmps[f]? =ae (.bool b):=by rw[SQ k];rw[lR,SQ k]at m;simpa using m
  simp[this]
 .exfalso;rw[lR,Array.getElem?_eq_none n]at m;simp[undef]at m
def ZR{n u}{d}{i}{A}(ho:d[i]? =ae A){kL}{f b}(hg:A.guard=ae (kL,f)){t}(hj:sQ d.toList kL=ae t){D x}(hb:L t D.sl=ae (.c<|.B b))(H:b=f){N}
  (m:mu P n (#[{A with guard:=none}]) 0 D x u N):mu P n d i D x u (.s t::N.1,N.2):=by
 let ⟨rd,wr,G,C,T,X,e⟩:=m
 refine⟨(.s t,.v<|.c<|.B b)::rd,wr,?_,?_,T,λk y=>?_,e⟩
 .intro F q Q p I g W a K z l E J;have r:=G F q Q p I g W a K z l (λw cq=>E w eK) J;have M:=l.dH t (.c<|.B b)<|E (.s t,.v<|.c<|.B b) ax;have O:gZ A (yielded d a.tmps)=af:=by simp only[gZ,hg,E9 hj M,H,beq_self_eq_true]
  unfold wpOp at r⊢;simp only[ho,O,cr];simp only[vg,n9,gZ,cr]at r;exact r
 .intro w cq;rcases b9.1 cq with rfl|m
  .simp[St.kn,hb]
  .exact C w m
 .simp only[dz,gM,b9]at y;rcases y with m|m
  .simp[m]
  .exact kJ _<|X k m
def alp{n x}{m}{i}{D:a8}(ho:m[i]? =ae D){kL}{l b}(hg:D.guard=ae (kL,l)){p}(hj:sQ m.toList kL=ae p){H}(hb:L p H.sl=ae (.c<|.B b))(N:b= !l)
  {d:G} (hd:D.dst=ae d):mu P n m i H (H.del d) x ([.s p],[.s d]):=by
 refine⟨[(.s p,.v<|.c<|.B b)],[(.s d,none)],?_,?_,ZQ H d,λk hk=>by simpa[dz]using hk,λk hk=>kK⟩
 .intro F X Q C M g W a K z f q r;have w:=f.dH p (.c<|.B b)<|q (.s p,.v<|.c<|.B b) ax;have E:gZ D (yielded m a.tmps)=ak:=by simp only[gZ,hg,E9 hj w,N];cases l<;>rfl
  unfold wpOp;simp only[ho,E,jh,bV,hd];refine r g W _<|f.step (chg:=λ_=>False) (g':=g) (W':=W) ⟨⟨cD.refl _,λ_ _=>rfl⟩,λ_ _ _=>rfl,f.sub,aN _,λ_ _ _=>rfl,J,J,J⟩ _ x z oM f.defers ?_ (λ_ h=>h.elim) ?_ ?_ ?_ ?_
  .intro t ht;have T:d≠t:=ua;simp[iq,lM T]
  .intro t u ht;simp only[aE]at ht;split at ht<;>simp at ht
  .intro I b ht;simp[aE]at ht
  .intro k y ht;simp only[aE]at ht;split at ht<;>simp at ht
  .intro I y ht;simp[aE]at ht
 .intro O A;simp only[iM]at A;subst A;simp[St.kn,hb]
def alq{n x}{m}{i}{D:a8}(ho:m[i]? =ae D){kL}{l b}(hg:D.guard=ae (kL,l)){p}(hj:sQ m.toList kL=ae p){H}(hb:L p H.sl=ae (.c<|.B b))(N:b= !l)
  {d:G} (hd:D.dst=ae d):mu P n m i H (H.put d<|.c .any) x ([.s p],[.s d]):=by
 refine⟨[(.s p,.v<|.c<|.B b)],[(.s d,ae<|.v<|.c .any)],?_,?_,qo H d _,λk hk=>by simpa[dz]using hk,λk hk=>kK⟩
 .intro F w Q T S g W a K z f E I;have O:=f.dH p (.c<|.B b)<|E (.s p,.v<|.c<|.B b) ax;have R:gZ D (yielded m a.tmps)=ak:=by simp only[gZ,hg,E9 hj O,N];cases l<;>rfl
  unfold wpOp;simp only[ho,R,jh,bV,hd];refine I g W _<|f.step (chg:=λ_=>False) (g':=g) (W':=W) ⟨⟨cD.refl _,λ_ _=>rfl⟩,λ_ _ _=>rfl,f.sub,aN _,λ_ _ _=>rfl,J,J,J⟩ _ x z oM f.defers ?_ (λ_ h=>h.elim) ?_ ?_ ?_ ?_
  .intro t ht;have X:d≠t:=ua;simp[iq,lM X]
  .intro t u ht;simp only[aE]at ht;split at ht
   .simp only[ar,Info.v.injEq]at ht;subst ht;exact M
   .simp at ht
  .intro r b ht;simp[aE]at ht
  .intro k y ht;simp only[aE]at ht;split at ht
   .simp only[ar]at ht;subst ht;intro r q;simp[Info.al,AV.al,C.al]at q
   .simp at ht
  .intro r y ht;simp[aE]at ht
 .intro U A;simp only[iM]at A;subst A;simp[St.kn,hb]
def MJ(tt:TT)(n g:G)(i:E a8)(f:a8)(a:St):aw (St×Pr×Ks):=match f.guard with
 |none=>E8 tt n g f.dst f.op a
 |some (j,want)=>(match sQ i j with
  |some k=>(match L k a.gd,L k a.sl with
   |some dec,ae (.c<|.B b)=>if dec=want then(match E8 tt n g f.dst f.op a with
     |some (l,p,m)=>ae (l,.an (.vf b want) p,(.s k::m.1,m.2))
     |none=>none)
    else(match f.dst with
     |some d=>ae (⟨(d,.c .any)::a.sl,a.mem,a.nx,a.gd⟩,.vf b<|!want,([.s k],[.s d]))
     |none=>none)
   |_,_=>none)
  |none=>none)
def ZS(k:cw P tt=af){n l}{f}{i}{t}(u:f[i]? =ae t){v m}{p}{x}
  (a:MJ tt n l f.toList t v=ae (m,p,x)) (g:p):mu P n f i v m l x:=by
 unfold MJ at a
 split at a
 .rename_i s;exact MH k u s a g
 .rename_i j z s;split at a
  .rename_i Q A;split at a
   .rename_i D b _ B;split at a
    .split at a
     .rename_i C q H K;simp only[ar,bQ]at a;obtain⟨rfl,rfl,rfl⟩:=a;have g:=Pr.Ia g;exact ZR u s A B g.1<|MH k (o:={t with guard:=none}) ax J K g.2
     .simp at a
    .split at a
     .rename_i d N;simp only[ar,bQ]at a;obtain⟨rfl,rfl,rfl⟩:=a;exact alq u s A B g N
     .simp at a
   .simp at a
  .simp at a
end
section
variable{P:bO}{tt:TT}
def mask(l:E Edge)(a:E G):G:=l.foldl (λs e=>if ve .any e then s|||2^e.on|||I a e.on 0 else s) 0
def rC:E a8->E G->E G
 |[],acc=>acc
 |a::os,acc=>rC os<|acc++[mask a.after.toList acc]
def Fb:E a8->G->Bool
 |[],_=>af
 |b::os,i=>b.after.toList.all (λa=> !ve .any a||decide (a.on<i))&&Fb os (i+1)
def IA(a b:E Key):Bool:=a.any λk=>b.any λd=>k=d
def oR(a b:Ks):Bool:=IA a.2 b.2||IA a.2 b.1||IA a.1 b.2
def Cs(m:G)(b:Ks):E Ks->G->Bool
 |[],_=>af
 |a::l,i=>(!oR a b||oa m i)&&Cs m b l (i+1)
def yr:E G->E Ks->E Ks->Bool
 |m::ms,b::a,done=>Cs m b done 0&&yr ms a (done++[b])
 |[],[],_=>af
 |_,_,_=>ak
def rE(a:E a8)(b:E Ks):Bool:=Fb a 0&&yr (rC a []) b []
def alr{l}{d}{f}(a:(mask l d).testBit f=af):∃b∈l,ve .any b=af/\(b.on=f\/oa (I d b.on 0) f=af):=by
 unfold mask at a;have g:∀(l:E Edge)(s:G),oa (l.foldl (λs b=>if ve .any b then s|||2^b.on|||I d b.on 0 else s) s) f=af->
   oa s f=af\/∃b∈l,ve .any b=af/\(b.on=f\/oa (I d b.on 0) f=af):=by
  intro l
  induction l with
  |nil=>intro s a;exact .inl a
  |cons b l m=>
   intro s a
   simp only[MC]at a
   rcases m _ a with a|⟨n,i,p,h2⟩
   .split at a
    .rename_i k;simp only[Nat.testBit_or,Ap,Nat.testBit_two_pow,mV]at a;rcases a with(a|a)|a
     .exact .inl a
     .exact .inr ⟨b,ax,k,.inl a⟩
     .exact .inr ⟨b,ax,k,.inr a⟩
    .exact .inl a
   .exact .inr ⟨n,by simp[i],p,h2⟩
 rcases g l 0 a with a|a
 .simp at a
 .exact a
def SS{ops:Array a8}:∀(g:E a8)(a:E G),ops.toList=c (Z a) ops.toList++g->Z a+Z g=ops.size->
  (∀k(t:k<Z a) b,a[k].testBit b=af->mR ops b k)->Z (rC g a)=ops.size/\∀k(t:k<Z (rC g a)) b,(rC g a)[k].testBit b=af->mR ops b k
 |[],a,_,hl,n=>by simp only[rC];exact⟨vj,n⟩
 |u::g,a,he,hl,n=>by
  have v:ops[Z a]? =ae u:=by
   rw[<-Fa,he,E4 b6];simp only[hZ];have:min (Z a) (Z ops.toList)=Z a:=by simp;simp at hl;omega
   rw[this];simp
  simp only[rC];refine SS g _ ?_ (by simp at hl⊢;omega) ?_
  .have d:Z a<Z ops.toList:=by simp;simp at hl;omega
   simp only[iL,iK,ug,fc];rw[SH d];have A:ops.toList[Z a]=u:=by have:=v;rw[<-Fa,cT d]at this;simpa using this
   rw[A,mX];exact he
  .intro k t b p;rcases rq k (Z a)with m|B
   .rw[rz m]at p;exact n k m b p
   .have:k=Z a:=by simp at t;omega
    subst this;simp only[IB (aN _),jA,w6]at p;let ⟨e,x,z,i⟩:=alr p;have f:e∈u.after:=by simpa using x
    rcases i with l|l
    .exact .one v f z l
    .rcases rq e.on (Z a)with s|s
     .rw[aO,cT s]at l;exact .more v f z J<|n e.on s b l
     .rw[aO,jB s]at l;simp at l
def ZT:∀(f:E a8)(i:G),Fb f i=af->∀k g,f[k]? =ae g->∀d∈g.after,ve .any d=af->d.on<i+k
 |[],_,_,k,g,a=>by simp at a
 |g::f,i,l,0,n,a=>by
  simp only[n9,ar]at a;subst a;simp only[Fb,cG,nw,Ap,IC,mV]at l;intro d m b;have:=l.1 d (by simpa using m);rcases this with a|a
  .rw[a]at b;cases b
  .omega
 |g::f,i,l,k+1,n,a=>by simp only[w5]at a;simp only[Fb,cG]at l;intro d m b;have:=ZT f (i+1) l.2 k n a d m b;omega
def ZU{m:G}{b:Ks}:∀(l:E Ks)(i:G),Cs m b l i=af->∀k a,l[k]? =ae a->oR a b=af->oa m (i+k)=af
 |[],_,_,k,a,d=>by simp at d
 |a::l,i,f,0,n,d=>by
  simp only[n9,ar]at d;subst d;simp only[Cs,cG,Ap,IC]at f;intro g;rcases f.1 with d|d
  .rw[d]at g;cases g
  .simpa using d
 |a::l,i,f,k+1,n,d=>by simp only[w5]at d;simp only[Cs,cG]at f;intro g;have:=ZU l (i+1) f.2 k n d g;rw[(Y:i+(k+1)=i+1+k)];exact this
def ZW:∀(k:E G)(f done:E Ks),yr k f done=af->∀g m b,k[g]? =ae m->f[g]? =ae b->∀i a,i<done.length+g->(done++f)[i]? =ae a->oR a b=af->oa m i=af
 |m::k,b::f,done,d,0,p,s,hm,l=>by simp only[n9,ar]at hm l;subst hm l;simp only[yr,cG]at d;intro i a t ha n;rw[E3 Y]at ha;have:=ZU done 0 d.1 i a ha n;simpa using this
 |m::k,b::f,done,d,g+1,p,s,hm,l=>by simp only[w5]at hm l;simp only[yr,cG]at d;intro i a t ha n;exact ZW k f (done++[b]) d.2 g p s hm l i a b6 Aq n
 |[],[],_,_,g,m,b,hm,_=>by simp at hm
 |[],_::_,_,d,_,_,_,_,_=>by simp[yr]at d
 |_::_,[],_,d,_,_,_,_,_=>by simp[yr]at d
def yt{a b}{k:Key}(d:k∈a)(f:k∈b):IA a b=af:=by simp only[IA,List.any_eq_true];exact⟨k,d,k,f,ax⟩
def SU{d}{p}(s:rE d.toList p=af):(∀i n g,d[i]? =ae n->g∈n.after->ve .any g=af->g.on<i)/\
  ∀i f a b,i<f->f<d.size->p[i]? =ae a->p[f]? =ae b->oR a b=af->mR d i f:=by
 simp only[rE,cG]at s
 refine⟨λi n g x z t=>?_,λi f a b u A ha t B=>?_⟩
 .have:=ZT d.toList 0 s.1 i n (by rw[Fa];exact x) g z t;omega
 .have v:=SS (ops:=d) d.toList [] ax ax (λk C=>by simp at C);have l:f<Z (rC d.toList []):=by rw[v.1];exact A
  have m:=ZW _ _ [] s.2 f _ b (cT l) t i a (by simpa using u) Aq B;exact v.2 f l i m
def qq(a:Kn)(b:E (E (Key×Info)×E (Key×aw Info))):Kn:=b.foldl (λa d=>bs a d.2) a
def ZX(a:E (E (Key×Info)×E (Key×aw Info)))(b:E Ks):Prop:=
 Z b=Z a/\∀j(h:j<Z a)(d:j<Z b),(∀k∈dz a[j].1,k∈b[j].1)/\∀k∈fR a[j].2,k∈b[j].2
def RG(P:bO)(n:G)(a:Array a8)(f:Bool)(k i:G)(l:E a8)(m:St)(s:E Ks)(Q:St->Prop):Prop:=
 az i a.toList=l->∃(b:E (E (Key×Info)×E (Key×aw Info)))(d:St),Z b=Z l/\
  (∀j(h:j<Z b),tU P n a (i+j) b[j].1 b[j].2 (rv (λi=>1000000*k+1000*i)<|i+j))/\
  (∀j(h:j<Z b),∀p∈b[j].1,qq m.kn (c j b) p.1=ae p.2)/\
  d.kn=qq m.kn b/\d.nx=k+1/\a.size<=1000/\(f=af->∃g,ZX b g/\rE a.toList (s++g)=af)/\Q d
def ID{n}{b}{a}{d i}{f}{mem}{m}{p}{l}{Q:St->Prop}(g:Q ⟨f,mem,d+1,[]⟩)(s:(!a||rE b.toList l)=af:=by kernel_rfl)(k:eL b.size 1000=af:=by rfl):
  RG P n b a d i [] ⟨f,mem,m,p⟩ l Q:=by
 intro _
 refine⟨[],⟨f,mem,d+1,[]⟩,J,ax,ax,J,J,cQ k,λt=>⟨[],⟨J,λj g=>by simp at g⟩,?_⟩,g⟩
 subst t
 simpa using s
def mY{n}{a}{g}{m i}{u}{v}{W p}{ks}{k}{Q:St->Prop}
  (hs:a[i]? =ae u->mu P n a i W p (1000000*m+1000*i) k) (cP:RG P n a g m (i+1) v p (ks++[k]) Q):RG P n a g m i (u::v) W ks Q:=by
 intro b
 have c:a[i]? =ae u:=by have:=bl (λl=>l[0]?) b;simpa[vn]using this
 have d:az (i+1) a.toList=v:=by rw[<-rF,b];rfl
 let ⟨rd,wr,x,z,s,A,B⟩:=hs c
 let ⟨ds,C,hl,e,h2,q,r,D,w,y⟩:=cP d
 refine⟨(rd,wr)::ds,C,by simp[hl],?_,?_,?_,r,D,?_,y⟩
 .intro j hj;cases j with
  |zero=>simpa using x.Mf (new:=rv (λi=>1000000*m+1000*i) i) ⟨aN _,(Y:1000000*m+1000*i<1000000*m+1000*(i+1))⟩
  |succ j=>
   have:=e j rG
   rw[(Y:i+(j+1)=i+1+j)]
   simpa using this
 .intro j hj X f;cases j with
  |zero=>simp only[w6]at f;simpa[qq]using z X f
  |succ j=>
   simp only[Ci]at f
   have:=h2 j rG X f
   rw[s]at this
   simpa[qq]using this
 .rw[q,s];simp[qq]
 .intro E;let ⟨H,⟨K,N⟩,t⟩:=w E;refine⟨k::H,⟨by simp[K],λj hj T=>?_⟩,by simpa using t⟩;cases j with
  |zero=>exact⟨A,B⟩
  |succ j=>exact N j rG (by simpa using T)
def als{n}{b}{k i}{l}{m}{p d}{Q:St->Prop}(s:RG P n b ak k i l m d Q):RG P n b ak k i l m p Q:=by intro a;let ⟨ds,f,hl,t,h2,u,v,g,_,x⟩:=s a;exact⟨ds,f,hl,t,h2,u,v,g,ax,x⟩
def alu{n}{b}{a}{f i}{l}{m}{s d}{t}{k}{p}{Q:St->Prop}(g:cw P tt=af)
  (u:MJ tt n (1000000*f+1000*i) b.toList l s=ae (d,p,k)) (v:p) (x:RG P n b a f (i+1) m d (t++[k]) Q):RG P n b a f i (l::m) s t Q:=
 mY (λz=>ZS g z u v) x
def g5(a:Bool)(b:E Ks)(k:Ks):E Ks:=match a with
 |true=>b++[k]
 |false=>[]
def mZ{n}{b}{a}{d i}{f}{g}{l}{k}{Q:St->Prop}(m:RG P n b a d i f g (g5 a l k) Q):RG P n b a d i f g (l++[k]) Q:=by
 cases a with
 |true=>exact m
 |false=>exact als m
def runs(tt:TT)(n g:G)(a:Bool)(b:E a8):E a8->G->St->Pr->E Ks->E a8×G×St×Pr×E Ks
 |[],i,st,p,d=>([],i,st,p,d)
 |l::os,i,st,p,d=>match MJ tt n (1000000*g+1000*i) b l st with
  |some (f,m,k)=>runs tt n g a b os (i+1) f (.an p m)<|g5 a d k
  |none=>(l::os,i,st,p,d)
def ZY{n:G}{l:Array a8}{a:Bool}{z:G}{Q:St->Prop}(m:cw P tt=af):∀(t:E a8)(i:G)(u:St)(p:Pr)(s:E Ks){b:E a8}{v:G}{d:St}{x:Pr}{f:E Ks},
  runs tt n z a l.toList t i u p s=(b,v,d,x,f)->x.h->(RG P n l a z v b d f Q)->p.h/\RG P n l a z i t u s Q
 |[],i,u,p,s,b,v,d,x,f,g,hp,hr=>by simp only[runs,bQ]at g;obtain⟨rfl,rfl,rfl,rfl,rfl⟩:=g;exact⟨hp,hr⟩
 |o::t,i,u,p,s,b,v,d,x,f,g,hp,hr=>by
  simp only[runs]at g;split at g
  .rename_i A q k C;let ⟨B,D⟩:=ZY m t (i+1) A (.an p q) (g5 a s k) g hp hr;let ⟨H,h2⟩:=Pr.Ia B;exact⟨H,alu m C h2<|mZ D⟩
  .simp only[bQ]at g;obtain⟨rfl,rfl,rfl,rfl,rfl⟩:=g;exact⟨hp,hr⟩
def jJ{n}{b}{a}{k i}{l}{m}{p}{Q:St->Prop}{d}{u}{f}{v}{g}(s:cw P tt=af)
  (x:runs tt n k a b.toList l i m .t p=(d,u,f,v,g)) (z:v) (A:RG P n b a k u d f g Q):RG P n b a k i l m p Q:=
 (ZY s l i m .t p x z A).2
def xd{b:Type} ds(d:b) a(f:a<Z ds):I ds a d=ds[a]:=by rw[aO,cT f];rfl
def Ff ds(b:Kn):∀a,a<=Z ds->fold (λi=>(I ds i ([],[])).2) b (cy a)=qq b (c a ds):=by
 intro a;induction a with
 |zero=>intro _;rfl
 |succ a d=>
  intro f
  rw[Ag,Si,d Y,SH Y]
  simp only[qq,List.foldl_append,MC,List.foldl_nil]
  rw[xd ds _ a Y]
def kb(a:St):G->Prop:=λb=>b<1000000*a.nx
def alv{d}{m}{st}{Q:St->Prop}{z}{id}{sS:Exit->Act->cA->Prop}(D:z.rd=none)(k8:P.follows .mixedOrders=af)(cP:RG P z.n d m st.nx 0 d.toList st [] Q)
  (hQ:∀p,Q p->∀g W a,aM z (kb p) p.kn g W a->sS .normal a W) {g}{W}{a}(h0:aM z (kb st) st.kn g W a):(Code.region id d m).wp P sS a W:=by
 refine(Zp D).1 ?_
 have C:wX z.rd d:=by rw[D];exact akL
 let ⟨ds,p,hl,L,h2,M,O,S,U,V⟩:=cP ax
 have SV:Z ds=d.size:=vj
 have w:∀i,i<d.size->tU P z.n d i ((I ds i ([],[])).1) ((I ds i ([],[])).2) (rv (λi=>1000000*st.nx+1000*i) i):=by intro i e;have:=L i Y;rw[xd ds _ i Y];simpa using this
 have y:∀i,i<d.size->∀X∈(I ds i ([],[])).1,fold (λi=>(I ds i ([],[])).2) st.kn (cy i) X.1=ae X.2:=by intro i e X H;rw[Ff ds st.kn i Y];rw[xd ds _ i Y]at H;exact h2 i Y X H
 have x:∀g W a,aM z (·<1000000*st.nx+1000*d.size) (fold (λi=>(I ds i ([],[])).2) st.kn<|cy d.size) g W a->sS .normal a W:=by intro g W a E;refine hQ p V g W a ?_;rw[M];rw[Ff ds st.kn d.size Y,jy Y]at E;exact E.weaken (λid bc=>by simp only[kb,O];omega)
 cases m with
 |false=>exact Sn (c:=λi=>1000000*st.nx+1000*i) (λi=>MK) h0 w y x C
 |true=>
  let ⟨K,⟨qk,o⟩,N⟩:=U J
  have G:=SU N
  have s:∀i j,i<j->j<d.size->∀a b:Ks,(K[i]? =ae a->K[j]? =ae b->oR a b=af->mR d i j):=by intro i j l v a b ha hb hc;exact G.2 i j a b l v Aq vp hc
  have f:∀i(e:i<d.size),∃a,K[i]? =ae a/\(∀k∈dz (I ds i ([],[])).1,k∈a.1)/\∀k∈fR (I ds i ([],[])).2,k∈a.2:=by intro i e;have T:i<Z K:=Y;refine⟨K[i],cT T,?_⟩;rw[xd ds _ i Y];exact o i Y T
  refine So (c:=λi=>1000000*st.nx+1000*i) (λi=>MK) k8 G.1 h0 w y ?_ ?_ ?_ x C
  .intro i j l v k t u;let ⟨a,ha,_,A⟩:=f i Y;let ⟨b,hb,_,B⟩:=f j v;exact s i j l v a b ha hb (by simp only[oR,yt (A k t)<|B k u,Fg])
  .intro i j l v k t u;let ⟨a,ha,_,A⟩:=f i Y;let ⟨b,hb,q,_⟩:=f j v;exact s i j l v a b ha hb (by simp only[oR,yt (A k t)<|q k u,Fg,Fh])
  .intro i j l v k t u;let ⟨a,ha,r,_⟩:=f i Y;let ⟨b,hb,_,B⟩:=f j v;exact s i j l v a b ha hb (by simp only[oR,yt (r k t)<|B k u,Fh])
end
def jK:G->aT:=λ_=>undef
def fD(g:Gh):E AV->E aT->Prop
 |[],vs=>vs=[]
 |x::xs,vs=>∃v a,vs=v::a/\bf g x v/\fD g xs a
def cO:E AV->E G
 |[]=>[]
 |x::xs=>x.al++cO xs
def bf.iN{g}{x}{v}(a:bf g x v)(b:x.al=[]){H}(d:cD g.H H)(γ:G->aT):bf ⟨H,γ⟩ x v:=
 bf.mono (known:=λ_=>False) ⟨d,λ_ a=>a.elim⟩ (by simp[b]) a
def fD.iN{g:Gh}{γ:G->aT}:∀{xs:E AV}{vs:E aT},fD g xs vs->cO xs=[]->fD ⟨g.H,γ⟩ xs vs
 |[],_,a,_=>a
 |x::xs,_,a,hm=>by simp only[cO,SF]at hm;obtain⟨v,b,rfl,d,f⟩:=a;exact⟨v,b,J,d.iN hm.1 (cD.refl _) γ,f.iN hm.2⟩
def ML(W:cA)(H:FH)(f:AV)(g:Ending)(d:cA):Prop:=
 ∃v a,g= .returned v/\bf ⟨a,jK⟩ f v/\cD H a/\(∀b o,b<W.heap.size->a b o=H b o)/\Sub a d/\Below W.heap.size W d
def ob(P:bO)(f:FuncId):Bool:=match P.funcs[f]? with
 |some fn=>fn.name != "runtime.NumGoroutine" &&fn.body.isSome
 |none=>ak
structure aq(P:bO)(f:FuncId)(args:E AV)(r:AV):Prop where
 call:ob P f=af
 iN:r.al=[]
 spec:∀H W vs,Sub H W->fD ⟨H,jK⟩ args vs->Calls P f vs.toArray W (ML W H r)
section
variable{P:bO}{tt:TT}
def kh(a:St):E ff->aw (E AV)
 |[]=>ae []
 |x::xs=>match a.ev x,kh a xs with
  |some v,ae vs=>ae<|v::vs
  |_,_=>none
def Ct{n:dB}{b:G->Prop}{l:Kn}{g:Gh}{W:cA}{a:Act}(m:aM n b l g W a)(f:St):∀(xs:E ff)(vs:E AV),kh f xs=ae vs->
  (∀d∈xs.flatMap (cH f),l d.1=ae d.2)->fD g vs (xs.map a.eval)
 |[],vs,he,_=>by simp only[kh,ar]at he;subst he;rfl
 |x::xs,vs,he,hr=>by
  simp only[kh]at he;split at he
  .rename_i v i p k;simp only[ar]at he;subst he;refine⟨_,_,J,dJ m f x v p<|λd cq=>hr d eK,Ct m f xs i k<|λd cq=>hr d ?_⟩;simp only[lQ,bg];exact .inr cq
  .simp at he
def Z0{n B}{ops}{i}{D:a8}(ho:ops[i]? =ae D)(hg:D.guard=none){d:G}(hd:D.dst=ae d)(dn:d<n){f}{args}{kj}(bW:D.op= .call ⟨.value<|.func f,args,kj⟩)
 {p}{vs}{N:AV} (hv:kh p args.toList=ae vs) (hm:cO vs=[]) (hf:aq P f vs N):mu P n ops i p (p.put d N) B (bH args.toList,[.s d]):=by
 refine⟨args.toList.flatMap<|cH p,[(.s d,ae<|.v N)],?_,?_,qo p d N,eP p _,λk hk=>kK⟩
 .intro F ly Q j σ g W a K C aW q S;have z:=(Ct aW p _ _ hv q).iN (γ:=jK) hm;have U:=hf.spec g.H W _ aW.sub z;unfold wpOp;simp only[ho,gZ,hg,cr];refine .inl ?_;unfold pG;have w:(execOp a.eval D).run P W= .ok (.enter f<|args.map a.eval) W:=by
   have l:=hf.call;unfold ob at l;rw[execOp,bW];cases A:P.funcs[f]? with
   |none=>rw[A]at l;simp at l
   |some fn=>
    rw[A]at l
    simp only[cG,bne_iff_ne,ne_eq]at l
    have V:fn.body≠none:=by intro Y;rw[Y]at l;simp at l
    simp[resolve,Act.eval,Deferred.ofValue,invoke,callFunc,A,l.1,V]
  rw[w];simp only[oL];have T:(args.map a.eval)=(args.toList.map a.eval).toArray:=Ar;rw[T];refine U.mono ?_;rintro e Z ⟨v,R,rfl,X,hle,E,c,m⟩;simp only[hd];have I:d<a.tmps.size:=nv;refine S ⟨R,g.γ⟩ Z _<|aW.step (chg:=λ_=>False) (g':=⟨R,g.γ⟩) ⟨⟨hle,λ_ _=>rfl⟩,E,c,m.size,λk hk _=>m.block k hk,m.os,m.tape,m.output⟩ _ B C oM aW.defers ?_ (λ_ h=>h.elim) ?_ ?_ ?_ ?_
  .intro t ht;have J:d≠t:=ua;simp[iq,lM J]
  .intro t u ht;simp only[aE]at ht;split at ht
   .rename_i e;simp only[Key.s.injEq]at e;simp only[ar,Info.v.injEq]at ht;subst e;subst ht;have:=X.iN hf.iN (cD.refl _) g.γ;simpa[iq,I]using this
   .simp at ht
  .intro L b ht;simp[aE]at ht
  .intro k y ht;simp only[aE]at ht;split at ht
   .simp only[ar]at ht;subst ht;intro L M;have:L∈N.al:=M;rw[hf.iN]at this;cases this
   .simp at ht
  .intro L y ht;simp[aE]at ht
 .intro kx O;let ⟨x,_,h⟩:=iY.1 O;exact eC p x kx h
def alw{n}{b}{a}{u i}{d f:G}{args}{g}{A}{pos}{k}{v}{l}{mem}{m}{p}{x}{Q:St->Prop}{vs}{z}
  (B:kh ⟨l,mem,m,p⟩ args.toList=ae vs) (D:aq P f vs z) (H:RG P n b a u (i+1) v ⟨(d,z)::l,mem,m,p⟩ (g5 a x (bH args.toList,[.s d])) Q) (N:cO vs=[]:=by rfl) (t:dK d n=af:=by rfl):
  RG P n b a u i (⟨ae d,.call ⟨.value<|.func f,args,g⟩,A,pos,k,none⟩::v) ⟨l,mem,m,p⟩ x Q:=
 mY (λC=>Z0 C J J (cQ t) J B N D) (mZ H)
def alx{n}{k}{a}{A i}{d f:G}{args}{l}{D}{pos}{m}{H t}{g b}{N}{p}{mem}{u}{v}{T}{Q:St->Prop}{vs}{W}
  (hj:sQ k.toList H=ae t) (hb:L t p=ae (.c<|.B b)) (x:b=g)
  (hv:kh ⟨p,mem,u,v⟩ args.toList=ae vs) (hf:aq P f vs W) (cP:RG P n k a A (i+1) N ⟨(d,W)::p,mem,u,v⟩ (g5 a T (.s t::bH args.toList,[.s d])) Q) (hm:cO vs=[]:=by rfl) (z:dK d n=af:=by rfl):
  RG P n k a A i (⟨ae d,.call ⟨.value<|.func f,args,l⟩,D,pos,m,ae (H,g)⟩::N) ⟨p,mem,u,v⟩ T Q:=
 mY (λC=>ZR C J hj hb x<|Z0 (ops:= #[⟨ae d,.call ⟨.value<|.func f,args,l⟩,D,pos,m,none⟩]) (i:=0) J J J (cQ z) J hv hm hf) (mZ cP)
def aly{n}{d}{a}{v i}t{b}{x}{g}{mem}{l}{p}{z}{Q:St->Prop}(D:L t g=ae (.c<|.B b))
  (H:b=af->RG P n d a v i x ⟨(t,.c<|.B af)::g,mem,l,(t,af)::p⟩ z Q)
  (N:b=ak->RG P n d a v i x ⟨(t,.c<|.B ak)::g,mem,l,(t,ak)::p⟩ z Q):RG P n d a v i x ⟨g,mem,l,p⟩ z Q:=by
 have u:∀c:Bool,b=c->(⟨(t,.c<|.B c)::g,mem,l,(t,c)::p⟩:St).kn=(⟨g,mem,l,p⟩:St).kn:=by
  intro c e;subst e;funext k;cases k with
  |s C=>
   by_cases e:t=C
   .subst e;simp[St.kn,L,D]
   .simp[St.kn,L,e]
  |m id=>rfl
 cases b with
 |true=>
  intro A
  let ⟨ds,f,r⟩:=H J A
  rw[u af J]at r
  exact⟨ds,f,r⟩
 |false=>
  intro A
  let ⟨ds,f,r⟩:=N J A
  rw[u ak J]at r
  exact⟨ds,f,r⟩
structure dB.pl(a:dB)(n:G):Prop where
 n:a.n=n
 k0:a.k0<=1
 rd:a.rd=none
 ds:a.ds=[]
abbrev ia:=dB->Exit->Act->cA->Prop
def TR(P:bO)(n:G)(d:Code)(b:St)(Q:ia):Prop:=∀F:dB,F.pl n->∀g W a,aM F (kb b) b.kn g W a->d.wp P (Q F) a W
def gf(n:G)(d:Exit)(b:St)(Q:ia):Prop:=∀F:dB,F.pl n->∀g W a,aM F (kb b) b.kn g W a->Q F d a W
def vq(P:bO)(b:Code)(Q:ia):ia:=λF=>Exit.then (λa W=>b.wp P (Q F) a W)<|Q F
def yu(a:G)(Q:ia):ia:=λF=>Fi a<|Q F
def IE{d:Type}(b:d->St)(k:d->Prop)(i:d->G)(x:d)(Q:ia):ia:=λF=>Exit.then (λa W=>∃f g,k f/\i f<i x/\aM F (kb<|b f) (b f).kn g W a)<|Q F
variable{n:G}{Q:ia}{st:St}
def bA{x b}(d:TR P n x st (vq P b Q)):TR P n (.seq x b) st Q:=λF f g W a i=>wp_seq<|d F f g W a i
def dk(b:gf n .normal st Q):TR P n .skip st Q:=λF d g W a f=>wp_skip<|b F d g W a f
def oc{b}(d:gf n (.exit b) st Q):TR P n (.exit b) st Q:=λF f g W a i=>wp_exit<|d F f g W a i
def bX(b:gf n .ret st Q):TR P n .ret st Q:=λF d g W a f=>wp_ret<|b F d g W a f
def aA{b}{d}(f:TR P n d st (yu b Q)):TR P n (.block b d) st Q:=λF i g W a k=>wp_block<|f F i g W a k
def xe{d}{x i}{b}(l:st.ev d=ae (.c<|.B b))(m:b=af->TR P n x st Q)(p:b=ak->TR P n i st Q):TR P n (.cond d x i) st Q:=by intro F k g W a f;have s:bf g (.c<|.B b) (a.eval d):=dJ f st d _ l<|eC st d;exact wp_cond_split s (λe=>m e F k g W a f)<|λe=>p e F k g W a f
def MM{m}{d}{b}(i:P.follows .mixedOrders=af)(p:RG P n d b st.nx 0 d.toList st [] (λf=>gf n .normal f Q)):TR P n (.region m d b) st Q:=by intro F k g W a s;have t:=k.n;subst t;exact alv k.rd i p (λf u g W a l=>u F k g W a l) s
def aR{a}(b:TR P n a st Q):gf n .normal st (vq P a Q):=b
def rH{b}{a}(d:gf n (.exit a) st Q):gf n (.exit a) st (vq P b Q):=d
def da{a}(b:gf n .ret st Q):gf n .ret st (vq P a Q):=b
def fT{a}(b:gf n .normal st Q):gf n .normal st (yu a Q):=b
def mz{a}(b:gf n .ret st Q):gf n .ret st (yu a Q):=b
def oe{b}(d:gf n .normal st Q):gf n (.exit b) st (yu b Q):=λF f g W a i=>by simp only[yu,Fi,cr];exact d F f g W a i
def IF{f b}(i:gf n (.exit b) st Q)(d:b≠f:=by decide):gf n (.exit b) st (yu f Q):=λF k g W a l=>by simp only[yu,Fi,d,bV];exact i F k g W a l
def oS{a:Type}{b:a->St}{f:a->Prop}{g:a->G}{x}{d}(i:gf n (.exit d) st Q):gf n (.exit d) st (IE b f g x Q):=i
def m0{a:Type}{b:a->St}{d:a->Prop}{f:a->G}{x}(g:gf n .ret st Q):gf n .ret st (IE b d f x Q):=g
def Wk(st b:St):Prop:=∀F:dB,F.k0<=1->∀g W a,aM F (kb st) st.kn g W a->∃d,aM F (kb b) b.kn d W a
def a6{f:Type}{b:f->St}{k:f->Prop}{i:f->G}{x}d(l:k d)(m:i d<i x)(p:Wk st (b d)):gf n .normal st (IE b k i x Q):=by intro F s g W a t;let ⟨u,v⟩:=p F s.k0 g W a t;exact⟨d,u,l,m,v⟩
def alz{p}{α:Type}(H:α->Act->cA->Prop)(N:α->G){Q:Exit->Act->cA->Prop} x{a}{i}(z:H x a i)
  (round:∀x a i,H x a i->p.wp P (Exit.then (λu v=>∃A,H A u v/\N A<N x) Q) a i):(Code.loop p).wp P Q a i:=by
 intro b k K
 have T:∀n x a i,N x=n->H x a i->
   ∃e u v,Q e u v/\Arrives P (lone (b.at a<|.code p:: .inLoop p::k) K i) b k K e u v:=by
  intro n
  induction n using Nat.strongRecOn with
  |_ n X=>
   intro x a i h j
   let ⟨e,f,g,hq,d⟩:=round x a i j b (.inLoop p::k) K
   cases e with
   |normal=>
    let ⟨A,s,W⟩:=hq
    let ⟨B,C,D,t,m⟩:=X (N A) (h▸W) A f g J s
    exact⟨B,C,D,t,.of_steps (Steps.trans d<|.one step_inLoop) m⟩
   |exit id=>exact⟨_,f,g,hq,.pass (x:= .inLoop p) J (λ_ _=> .inl ax) d⟩
   |goto l=>exact⟨_,f,g,hq,.pass (x:= .inLoop p) J (λ_ _=> .inl ax) d⟩
   |ret=>exact⟨_,f,g,hq,.pass (x:= .inLoop p) J (λ_ _=> .inl ax) d⟩
   |panic ch=>exact⟨_,f,g,hq,.pass (x:= .inLoop p) J (λ_ _=> .inl ax) d⟩
   |outgrown=>exact⟨_,f,g,hq,.pass (x:= .inLoop p) J (λ_ _=> .inl ax) d⟩
 let ⟨e,u,v,hq,d⟩:=T _ x a i J z
 exact⟨e,u,v,hq,.of_steps (.one step_loop) d⟩
def bx{α:Type}(b:α->St)(d:α->Prop)(l:α->G) f{m}(t:d f)(u:Wk st (b f))(round:∀x,d x->TR P n m (b x) (IE b d l x Q)):TR P n (.loop m) st Q:=by
 intro F p g W a v;let ⟨z,A⟩:=u F p.k0 g W a v;refine alz (λx a W=>d x/\∃g,aM F (kb<|b x) (b x).kn g W a) l f ⟨t,z,A⟩ ?_;rintro x a W ⟨i,g,hg⟩;refine wp_mono (round x i F p g W a hg) ?_;intro e H K s;cases e with
 |normal=>
  let ⟨B,k,C,h2,D⟩:=s
  exact⟨B,⟨C,k,D⟩,h2⟩
 |_=>exact s
end
section
variable{P:bO}{tt:TT}{n:G}{Q:ia}{st:St}
def bq(v a:AV):Prop:=(∀g x,bf g v x->bf g a x)/\∀b∈a.al,b∈v.al
def bq.refl v:bq v v:=⟨λ_ _ h=>h,λ_ h=>h⟩
def bq.of_eq{v a}(b:v=a):bq v a:=b▸bq.refl v
def bq.nil T:bq (.c<|.V<|.slice none 0 0) (.c<|.S T []):=⟨λg x h=>by have a:x= .slice none 0 0:=h;subst a;exact⟨none,0,J,aN _,ax,.inl J⟩,sI⟩
def lS(b d:aC):Prop:=(∀N g W a,gL N g W a b->gL N g W a d)/\∀a∈d.al,a∈b.al
def lS.refl b:lS b b:=⟨λ_ _ _ _ h=>h,λ_ h=>h⟩
def lS.of_eq{b a}(d:b=a):lS b a:=d▸lS.refl b
def As(l:E (G×AV)):E (G×AV)->Prop
 |[]=>True
 | (t,a)::b=>(∃v,L t l=ae v/\bq v a)/\As l b
def Cu(l:E (G×aC)):E (G×aC)->Prop
 |[]=>True
 | (t,a)::b=>(∃v,L t l=ae v/\lS v a)/\Cu l b
def As.get{l:E (G×AV)}:∀{m:E (G×AV)},As l m->∀{t b},L t m=ae b->∃v,L t l=ae v/\bq v b
 |[],_,_,_,a=>by simp[L]at a
 | (k,x)::m,hw,t,b,a=>by
  simp only[L]at a;split at a
  .rename_i d;subst d;cases a;exact hw.1
  .exact As.get hw.2 a
def Cu.get{l:E (G×aC)}:∀{m:E (G×aC)},Cu l m->∀{t b},L t m=ae b->∃v,L t l=ae v/\lS v b
 |[],_,_,_,a=>by simp[L]at a
 | (k,x)::m,hw,t,b,a=>by
  simp only[L]at a;split at a
  .rename_i d;subst d;cases a;exact hw.1
  .exact Cu.get hw.2 a
def xf(b:G):E G->Bool
 |[]=>af
 |id::a=>dK id b&&xf b a
def At(b:G):E (G×AV)->Bool
 |[]=>af
 | (_,v)::a=>xf b v.al&&At b a
def uh(b:G):E (G×aC)->Bool
 |[]=>af
 | (id,v)::a=>dK id b&&xf b v.al&&uh b a
def MN{b:G}:∀{l:E G},xf b l=af->∀d∈l,d<b
 |[],_,_,a=>by simp at a
 |g::i,f,d,a=>by
  simp only[xf,cG]at f;rcases b9.1 a with rfl|a
  .exact cQ f.1
  .exact MN f.2 d a
def Fj{b:G}:∀{l:E (G×AV)},At b l=af->∀t v,L t l=ae v->∀f∈v.al,f<b
 |[],_,_,_,a=>by simp[L]at a
 | (k,x)::g,d,t,v,a=>by
  simp only[At,cG]at d;simp only[L]at a;split at a
  .cases a;exact MN d.1
  .exact Fj d.2 t v a
def Fk{b:G}:∀{l:E (G×aC)},uh b l=af->∀t v,L t l=ae v->t<b/\∀f∈v.al,f<b
 |[],_,_,_,a=>by simp[L]at a
 | (k,x)::i,d,t,v,a=>by
  simp only[uh,cG]at d;simp only[L]at a;split at a
  .rename_i g;subst g;cases a;exact⟨cQ d.1.1,MN d.1.2⟩
  .exact Fk d.2 t v a
def wk{st st'}(N:As st.sl st'.sl)(T:Cu st.mem st'.mem)(p:(At (1000000*st'.nx) st'.sl&&uh (1000000*st'.nx) st'.mem&&(eL 1 st'.nx||eL st.nx 0))=af:=by rfl):Wk st st':=by
 intro F X g W a h;simp only[cG,Ap]at p;let ⟨p,A⟩:=p;have B:∀d,d<F.k0->kb st' d/\g.γ d=F.γ0 d:=by
  intro d l;let ⟨H,h2⟩:=h.fB d l;refine⟨?_,h2⟩;have H:d<1000000*st.nx:=H;show d<1000000*st'.nx;rcases A with e|e
  .have:=cQ e;omega
  .have:=cQ e;omega
 have K:∀t f,st'.kn (.s t)=ae (.v f)->(∃v,st.kn (.s t)=ae (.v v)/\bq v f)/\∀d∈f.al,d<1000000*st'.nx:=by intro t f e;simp only[St.kn,bS]at e;let ⟨x,hx,he⟩:=e;cases he;let ⟨v,hv,hle⟩:=N.get hx;exact⟨⟨v,rI,hle⟩,Fj p.1 t f hx⟩
 have u:∀d i,st'.kn (.m d)=ae (.b i)->(∃b,st.kn (.m d)=ae (.b b)/\lS b i)/\d<1000000*st'.nx/\∀j∈i.al,j<1000000*st'.nx:=by intro t f e;simp only[St.kn,bS]at e;let ⟨x,hx,he⟩:=e;cases he;let ⟨v,hv,hle⟩:=T.get hx;exact⟨⟨v,rI,hle⟩,Fk p.2 t f hx⟩
 refine⟨g,h.size,h.defers,?_,?_,?_,?_,?_,h.sub,h.below,h.le,h.fresh,B⟩
 .intro t f e;let ⟨⟨v,hv,hle⟩,_⟩:=K t f e;exact hle.1 _ _<|h.dH t v hv
 .intro d i e;let ⟨⟨b,o,hle⟩,_⟩:=u d i e;exact hle.1 _ _ _ _<|h.cE d b o
 .intro d z b i k e q r C;let ⟨⟨c,hc,_⟩,_⟩:=u d b e;let ⟨⟨w,D,_⟩,_⟩:=u z i q;exact h.inj d z c w k hc D r C
 .intro k x e d l;cases k with
  |s t=>
   cases x with
   |v f=>exact(K t f e).2 d l
   |b i=>simp only[St.kn,bS]at e;let ⟨_,_,he⟩:=e;cases he
  |m j=>
   cases x with
   |v f=>simp only[St.kn,bS]at e;let ⟨_,_,he⟩:=e;cases he
   |b i=>exact(u j i e).2.2 d l
 .intro d x e;cases x with
  |v f=>simp only[St.kn,bS]at e;let ⟨_,_,he⟩:=e;cases he
  |b i=>exact(u d i e).2.1
def fg{b}{st'}(f:Wk st st')(i:TR P n b st' Q):TR P n b st Q:=by intro F d g W a k;let ⟨l,m⟩:=f F d.k0 g W a k;exact i F d l W a m
def MQ{b}{st'}(f:Wk st st')(i:gf n b st' Q):gf n b st Q:=by intro F d g W a k;let ⟨l,m⟩:=f F d.k0 g W a k;exact i F d l W a m
def Cv(P:bO)(d:Func)(f:AV):ia:=λF e a W=>(∀b,¬F.own b)->bodyPost P d (ML F.w0 F.H0 f) e a W
def qt(tt:TT)(st:St):Au->aw AV
 | .tmp t=>L t st.sl
 | .cell t ty=>(match L t st.sl with
  |some (.c<|.P id off)=>(match L id st.mem,pJ tt ty with
   |some (.box _ _ cs),ae (sz,a)=>oN cs off sz a
   |_,_=>none)
  |_=>none)
def rJ:AV->aw (Bool×E C)
 | .c x=>ae (ak,[x])
 | .a cs=>ae (af,cs)
 | .t _=>none
def qu(tt:TT)(st:St):E Au->aw (E<|Bool×E C)
 |[]=>ae []
 |x::xs=>(match qt tt st x with
  |some v=>(match rJ v,qu tt st xs with
   |some s,ae a=>ae<|s::a
   |_,_=>none)
  |none=>none)
def mA(tt:TT)(st:St):E Au->aw AV
 |[x]=>qt tt st x
 |xs=>(qu tt st xs).map .t
def Cw(a:Array aT):Au->Go.Sem aT
 | .tmp t=>pure<|a.getD t undef
 | .cell b t=>do loadVar t (<-asAddr (a.getD b undef))
def Z1(k:cw P tt=af){A}{i:G->Prop}{g}{W}{a}(l:aM A i st.kn g W a){x}{v}(hv:qt tt st x=ae v):
  ∃u,(Cw a.tmps x).run P W= .ok u W/\bf g v u:=by
 cases x with
 |tmp t=>
  simp only[qt]at hv
  exact⟨_,by simp[Cw,pure],l.dH t v rI⟩
 |cell b t=>
  simp only[qt]at hv
  split at hv
  .rename_i z m hl;split at hv
   .rename_i E B C sz T D p;let ⟨H,vs,rest,s,hh,hr,_,_⟩:=l.cE z (.box E B C) (by simp[St.kn,D]);let ⟨K,d,hp⟩:=l.dH b (.c<|.P z m) Cx;rw[s]at d;simp only[ar]at d;subst d;let ⟨u,f,hu⟩:=Io (W:=W) k p hr hv H 0 (λj N=>by have:=w7 hh j b6;rw[rz N]at this;simpa using this);refine⟨u,?_,hu⟩;simp only[fc]at f;simp only[Cw,hp,asAddr];simpa[Instr.loadAt,Instr.sureAddr]using f
   .simp at hv
  .simp at hv
def SW{g}{v}{s}(b:rJ v=ae s){u}(d:bf g v u):B6 g s u:=by
 cases v with
 |c x=>simp only[rJ,ar]at b;subst b;exact d
 |a cs=>simp only[rJ,ar]at b;subst b;exact d
 |t _=>simp[rJ]at b
def Av(t:cw P tt=af){H}{k:G->Prop}{g}{W}{a}(A:aM H k st.kn g W a){fn}{rs}(B:fn.results=rs.toArray){v}(i:mA tt st rs=ae v):
  ∃u,(results fn a.tmps).run P W= .ok u W/\bf g v u:=by
 have K:∀(rs:E Au)(p:E (Bool×E C)),qu tt st rs=ae p->∃f:E aT,(rs.mapM<|Cw a.tmps).run P W= .ok f W/\dy g p f/\Z f=Z rs:=by
  intro rs;induction rs with
  |nil=>intro p b;simp only[qu,ar]at b;subst b;exact⟨[],by simp[pure],J,J⟩
  |cons x xs N=>
   intro p b
   simp only[qu]at b
   split at b
   .rename_i j D;split at b
    .rename_i s r T X;simp only[ar]at b;subst b;let ⟨u,hu,d⟩:=Z1 t A D;let ⟨f,l,m,hlen⟩:=N r X;refine⟨u::f,?_,⟨u,f,J,SW T d,m⟩,by simp[hlen]⟩;rw[Iy];simp only[dq,hu,dM,l];simp[pure]
    .simp at b
   .simp at b
 have e:results fn a.tmps=(do let vs <-rs.toArray.mapM (Cw a.tmps);pure (if A:vs.size=1 then vs[0]else .tuple vs)):=by unfold results;rw[B];rfl
 have z:Array.mapM (Cw a.tmps) rs.toArray=Functor.map List.toArray (rs.mapM<|Cw a.tmps):=ax
 rw[e,z]
 match rs,i with
 |[],i=>
  simp only[mA,qu,xg,ar]at i
  subst i
  exact⟨.tuple #[],by simp[Sem.run,pure],[],J,J⟩
 |[x],i=>
  let ⟨u,hu,d⟩:=Z1 t A i
  refine⟨u,?_,d⟩
  simp[hu,Sem.run,pure]
 |x::y::r,i=>
  simp only[mA,bS]at i
  obtain⟨p,b,rfl⟩:=i
  let ⟨f,l,m,hlen⟩:=K _ p b
  refine⟨.tuple f.toArray,?_,f,J,m⟩
  have c:f.toArray.size≠1:=by simp[hlen]
  simp only[map_eq_pure_bind,bind_assoc,pure_bind,dq,l,dM]
  rw[dif_neg c]
  rfl
def iZ(i:cw P tt=af){s}{t}{v l}(x:mA tt st t=ae v)(m:bq v l)(p:s.results=t.toArray:=by rfl)(z:l.al=[]:=by rfl):gf n .ret st (Cv P s l):=by intro F A g W a h d;let ⟨u,hu,f⟩:=Av i h p x;refine⟨h.defers.trans A.ds,u,hu,u,g.H,J,?_,h.le,λb o B=>h.fresh b o B<|d b,h.sub,⟨h.below.os,h.below.tape,h.below.output,h.below.size,λk C=>h.below.block k C<|d k⟩⟩;exact(m.1 _ _ f).iN z (cD.refl _) jK
def dG:G->E AV->E (G×AV)
 |_,[]=>[]
 |i,v::vs=>(i,v)::dG (i+1) vs
def lT{g:Gh}:∀(vs:E AV)(f:E aT)(i:G),fD g vs f->∀t v,L t (dG i vs)=ae v->i<=t/\∃u,f[t-i]? =ae u/\bf g v u/\∀d∈v.al,d∈cO vs
 |[],_,i,_,t,v,b=>by simp[dG,L]at b
 |x::vs,_,i,hr,t,v,b=>by
  obtain⟨u,k,rfl,l,m⟩:=hr;simp only[dG,L]at b;split at b
  .rename_i e;subst e;cases b;exact⟨aN _,u,ax,l,λd a=>by simp[cO,a]⟩
  .let ⟨B,p,s,z,A⟩:=lT vs k (i+1) m t v b;refine⟨Y,p,?_,z,λd a=>by simp[cO,A d a]⟩;rw[(Y:t-i=(t-(i+1))+1)];simpa using s
def xh{g:Gh}:∀{vs:E AV}{b:E aT},fD g vs b->Z b=Z vs
 |[],_,a=>by simp only[fD]at a;subst a;rfl
 |_::vs,_,a=>by obtain⟨u,f,rfl,_,d⟩:=a;simp[xh d]
def Fl{f}{g}{T}{args}{B}(hf:P.funcs[f]? =ae g)(hb:g.body=ae T)(hN:g.ntmps=n)(i:eL args.length n=af)(D:cO args=[])(N:B.al=[])(qv:(g.name != "runtime.NumGoroutine")=af)
  (l:TR P n T ⟨dG 0 args,[],0,[]⟩ (Cv P g B)):aq P f args B:=by
 refine⟨yv,N,?_⟩
 intro H W vs p d
 refine calls_of_wp hf hb ?_
 have K:=xh d
 have i:=cQ i
 refine wp_mono (l {w0:=W,H0:=H,n:=n} ⟨J,bm _,J,J⟩ ⟨H,jK⟩ W _ ⟨?_,J,?_,?_,?_,?_,?_,p,⟨J,J,J,aN _,λ_ _ _=>rfl⟩,cD.refl _,λ_ _ _ _=>rfl,λ_ l=>aJ l<|oT _⟩)<|λe a F o=>o<|λ_ l=>l
 .simp[hN];omega
 .intro t v X;simp only[St.kn,bS]at X;let ⟨x,hx,he⟩:=X;cases he;let ⟨_,u,hu,hr,_⟩:=lT args vs 0 d t v hx;have z:vs[t]? =ae u:=vr;have jw:t<Z vs:=(qn.1 z).1;have:(vs.toArray++Array.replicate (g.ntmps-vs.toArray.size) undef).getD t undef=u:=by rw[lR,ui yw];simp[z]
  rw[this];exact hr
 .intro A b e;simp[St.kn,L]at e
 .intro A q b G k e;simp[St.kn,L]at e
 .intro k x e A C;cases k with
  |m j=>simp[St.kn,L]at e
  |s t=>
   simp only[St.kn,bS]at e
   let ⟨y,w,he⟩:=e
   subst he
   let ⟨_,u,_,_,E⟩:=lT args vs 0 d t y w
   have:=E A C
   rw[D]at this
   cases this
 .intro A x e;simp[St.kn,L]at e
end
def sR{l:E (G×AV)}{t:G}{v:AV}(a:L t l=ae v):∃x,L t l=ae x/\bq x v:=⟨v,a,bq.refl v⟩
def bR{l:E (G×aC)}{t:G}{v:aC}(a:L t l=ae v):∃x,L t l=ae x/\lS x v:=⟨v,a,lS.refl v⟩
def sE{l:E (G×AV)}{t:G}{a v:AV}(b:L t l=ae a)(d:a=v):∃x,L t l=ae x/\bq x v:=⟨a,b,bq.of_eq d⟩
def bE{l:E (G×aC)}{t:G}{a v:aC}(b:L t l=ae a)(d:a=v):∃x,L t l=ae x/\lS x v:=⟨a,b,lS.of_eq d⟩
def bP{b:E (G×AV)}:∀{l:E (G×AV)},l.map (λa=>L a.1 b)=l.map (λa=>ae a.2)->As b l
 |[],_=>trivial
 | (t,v)::l,d=>⟨⟨v,(MR d).1,bq.refl v⟩,bP (MR d).2⟩
def ny{b:E (G×aC)}:∀{l:E (G×aC)},l.map (λa=>L a.1 b)=l.map (λa=>ae a.2)->Cu b l
 |[],_=>trivial
 | (t,v)::l,d=>⟨⟨v,(MR d).1,lS.refl v⟩,ny (MR d).2⟩
def aY{d a:St}(f:a.sl.map (λb=>L b.1 d.sl)=a.sl.map (λb=>ae b.2):=by rfl)(g:a.mem.map (λb=>L b.1 d.mem)=a.mem.map (λb=>ae b.2):=by rfl)(i:(At (1000000*a.nx) a.sl&&uh (1000000*a.nx) a.mem&&(eL 1 a.nx||eL d.nx 0))=af:=by rfl):Wk d a:=wk (bP f) (ny g) i
def mB{p:Prop}(a:p:=by first|trivial| (simp only[Pr.an,Pr.h,num,gy,true_and,and_true];first|done|omega)| (simp[Pr.an,Pr.h,num,gy];done)| (simp[Pr.an,Pr.h,num,gy];omega)):p:=a
def Cy{p:Prop}(a:p:=by first|trivial| (simp only[Pr.an,Pr.h,num,gy,true_and,and_true];first|done|omega)):p:=a
def bY{a b:Int}(d:a=b):AV.c (C.I .u64 a)=AV.c (C.I .u64 b):=by rw[d]
def jC{a b:Int}(d:a=b):AV.c (C.I .i64 a)=AV.c (C.I .i64 b):=by rw[d]
def Fo{a b:Int}(d:a=b):AV.c (C.I .u32 a)=AV.c (C.I .u32 b):=by rw[d]
section
variable{P:bO}{tt:TT}
def Z2{a:Type}(z:E a) n i(d:i<n):c (Z z) (az (i*Z z)<|(bt n z).flatten)=z:=by
 induction n generalizing i with
 |zero=>omega
 |succ n b=>
  rw[Aw,MS]
  cases i with
  |zero=>simp
  |succ i=>
   rw[(Ii:(i+1)*Z z=Z z+i*Z z),<-rF,List.drop_left]
   exact b i Y
def Z3{a:Type}(z:E a) n:(bt n z).flatten.length=n*Z z:=ax
def MU(a:E aT) n(g:a≠[]):(Z4<|n*Z a).map (λi=>a.toArray[i%a.toArray.size]!)=((bt n a).flatten).toArray:=by
 apply Array.ext
 .simp
 .intro i f h2;simp at f;have k:0<Z a:=cR.2 g;have d:i%Z a<Z a:=gJ _ k;simp only[Array.getElem_map,Array.getElem_range,List.size_toArray,alA];rw[getElem!_pos _ _ (by simpa using d),alA];have l:i/Z a<n:=Ax (by rw[ic];exact f);have m:=Z2 a n (i/Z a) l;have p:i=i/Z a*Z a+i%Z a:=by rw[ic];exact(sU i<|Z a).symm
  have b:(c (Z a)<|(bt n a).flatten.drop<|i/Z a*Z a)[i%Z a]? =a[i%Z a]? :=by rw[m]
  rw[Iw d,vn,<-p]at b;rw[cT rK,cT d]at b;simp only[ar]at b;exact b.symm
def Z5{ops}{i}{x:a8}{d:G}(ho:ops[i]? =ae x)(hg:x.guard=none)(hd:x.dst=ae d){n}(dn:d<n){D}{bp}{T}{xs}new(hlen:Z xs*T.n<=140737488355328)
  (cP:∀(gP:dB)(f:G->Prop)(σ:Kn)(g:Gh)(W:cA)(a:Act),aM gP f σ g W a->(∀kx∈pI D x.op,σ kx.1=ae kx.2)->
   ∃(vs:E aT)(l:G)(W1:cA),(execOp a.eval x).run P W= .ok (.value<|.slice (ae ⟨W.heap.size,0,none⟩) (Z xs) l) {W1 with heap:=W.heap.push<|.cells vs.toArray bp (0,0)}/\W1.os=W.os/\W1.tape=W.tape/\W1.output=W.output/\Z vs=l*T.n/\Z xs<=l/\
    ∀i(cP:i<Z xs),de g.H T xs[i] ((az (i*T.n) vs).take T.n)):
  mu P n ops i D ((D.pm new<|.vec bp T xs).put d<|.c<|.X new) new (bH x.op.operands.toList,[.s d,.m new]):=by
 refine⟨pI D x.op,[(.s d,ae<|.v<|.c<|.X new),(.m new,ae<|.b<|.vec bp T xs)],?_,sM D _,E7 D d new _ _,eP D _,λk hk=>kK⟩
 intro gP ly Q f σ g W a K A aW I R
 let ⟨vs,l,W1,j,S,U,V,L,hle,q⟩:=cP gP f σ g W a aW I
 unfold wpOp
 simp only[ho,gZ,hg,cr]
 refine .inl ?_
 unfold pG
 rw[j]
 simp only[oL,hd]
 have M:d<a.tmps.size:=nv
 let N:Gh:=⟨g.H,λB=>if B=new then .slice (ae ⟨W.heap.size,0,none⟩) (Z xs) l else g.γ B⟩
 have r:gw f g N:=⟨cD.refl _,λB p=>by
  have:B≠new:=λe=>A<|e▸p
  simp[N,this]⟩
 have z:∀x,g.H W.heap.size x=none:=by
  intro x;cases hv:g.H W.heap.size x with
  |none=>rfl
  |some v=>
   have:=Cm W _<|aW.sub _ _ _ hv
   simp at this
 have w:Sub g.H {W1 with heap:=W.heap.push<|.cells vs.toArray bp (0,0)}:=by have:=Ck aW.sub<|.cells vs.toArray bp (0,0);exact this
 refine R N _ _<|aW.step (chg:=λ_=>False) (g':=N) ⟨r,λ_ _ _=>rfl,w,ax,λk hk _=>EZ W _ k hk,S,U,V⟩ _ new A oM aW.defers ?_ (λ_ cP=>cP.elim) ?_ ?_ ?_ ?_
 .intro t ht;have O:d≠t:=ua;simp[iq,lM O]
 .intro t u ht;simp only[aE]at ht;split at ht
  .rename_i e;simp only[Key.s.injEq]at e;simp only[ar,Info.v.injEq]at ht;subst e;subst ht;simp[iq,M,bf,c6,N]
  .split at ht
   .simp at ht
   .simp at ht
 .intro B b ht;simp only[aE,reduceCtorEq,bV]at ht;split at ht
  .rename_i e;simp only[Key.m.injEq]at e;subst e;simp only[ar,Info.b.injEq]at ht;subst ht;refine⟨.inr ⟨W.heap.size,l,vs,by simp[N],ax,L,hle,hlen,q,.inl aW.below.size,z⟩,.inr ⟨J,λk hk=> .inl ?_⟩⟩;simp only[N,cr,cF,ar]at hk;omega
  .simp at ht
 .intro k y ht;simp only[aE]at ht;split at ht
  .simp only[ar]at ht;subst ht;intro B p;simp[Info.al,AV.al,C.al]at p;exact .inr p
  .split at ht
   .simp only[ar]at ht;subst ht;intro B p;simp[Info.al,aC.al]at p
   .simp at ht
 .intro B y ht;simp only[aE,reduceCtorEq,bV]at ht;split at ht
  .rename_i e;simp only[Key.m.injEq]at e;exact .inr e.symm
  .simp at ht
def alB{ops}{i}{f:a8}{d:G}(ho:ops[i]? =ae f)(hg:f.guard=none)(hd:f.dst=ae d){n}(dn:d<n){D}{bp}{T}{xs}new(hlen:Z xs*T.n<=140737488355328)
  (cP:∀(gP:dB)(m:G->Prop)(σ:Kn)(g:Gh)(W:cA)(a:Act),aM gP m σ g W a->(∀kx∈pI D f.op,σ kx.1=ae kx.2)->
   ∃(vs:E aT)(l:G)(N:cA),(execOp a.eval f).run P W= .ok (.value<|.slice (ae ⟨W.heap.size,0,none⟩) (Z xs) l) {N with heap:=W.heap.push<|.cells vs.toArray bp (0,0)}/\N.os=W.os/\N.tape=W.tape/\N.output=W.output/\Z vs=l*T.n/\Z xs<=l/\
    ∀i(cP:i<Z xs),de g.H T xs[i] ((az (i*T.n) vs).take T.n)):
  mu P n ops i D (D.put d<|.c<|.S T xs) new (bH f.op.operands.toList,[.s d]):=by
 refine⟨pI D f.op,[(.s d,ae<|.v<|.c<|.S T xs)],?_,sM D _,qo D d _,eP D _,λk hk=>kK⟩
 intro gP ly Q m σ g W a K X aW I V
 let ⟨vs,l,N,q,e1,e2,e3,vu,hle,A⟩:=cP gP m σ g W a aW I
 unfold wpOp
 simp only[ho,gZ,hg,cr]
 refine .inl ?_
 unfold pG
 rw[q]
 simp only[oL,hd]
 have L:d<a.tmps.size:=nv
 let x:Gh:=⟨λb f=>if b=W.heap.size then vs[f]? else g.H b f,g.γ⟩
 have z:∀f,g.H W.heap.size f=none:=by
  intro f;cases p:g.H W.heap.size f with
  |none=>rfl
  |some v=>
   have:=Cm W _<|aW.sub _ _ _ p
   simp at this
 have B:cD g.H x.H:=by
  intro b f v p;by_cases e:b=W.heap.size
  .subst e;rw[z]at p;cases p
  .simp[x,e,p]
 have r:Sub x.H {N with heap:=W.heap.push<|.cells vs.toArray bp (0,0)}:=by
  intro b f v p;by_cases e:b=W.heap.size
  .subst e;simp only[x,cr]at p;simp[World.cell?,p]
  .simp only[x,e,bV]at p;exact Ck aW.sub (.cells vs.toArray bp (0,0)) b f v p
 refine V x _ _<|aW.step (chg:=λ_=>False) (g':=x) ⟨⟨B,λ_ _=>rfl⟩,?_,r,ax,λk hk _=>EZ W _ k hk,e1,e2,e3⟩ _ new X oM aW.defers ?_ (λ_ cP=>cP.elim) ?_ ?_ ?_ ?_
 .intro b f hb;have:b≠W.heap.size:=Y;simp[x,this]
 .intro t ht;have M:d≠t:=ua;simp[iq,lM M]
 .intro t u ht;simp only[aE]at ht;split at ht
  .rename_i e;simp only[Key.s.injEq]at e;simp only[ar,Info.v.injEq]at ht;subst e;subst ht;have w:(a.put (ae d)<|.slice (ae ⟨W.heap.size,0,none⟩) (Z xs) l).tmps.getD d undef= .slice (ae ⟨W.heap.size,0,none⟩) (Z xs) l:=by simp[iq,L]
   rw[w];refine⟨_,l,J,hle,hlen,?_⟩;by_cases hx:xs=[]
   .exact .inl hx
   .refine .inr ⟨W.heap.size,0,J,λk hk=>⟨(az (k*T.n) vs).take T.n,de.length T _ _<|A k hk,de.mono B T _ _<|A k hk,λj hj=>?_⟩⟩;have O:(k+1)*T.n<=l*T.n:=eB _ Y;rw[fZ,hY]at O;simp only[hZ,yx]at hj;simp only[x,cr,fc,sK,vk];exact cT Y
  .simp at ht
 .intro U b ht;simp[aE]at ht
 .intro k y ht;simp only[aE]at ht;split at ht
  .simp only[ar]at ht;subst ht;intro U R;simp[Info.al,AV.al,C.al]at R
  .simp at ht
 .intro U y ht;simp[aE]at ht
def alC(v:cw P tt=af){A}{i}{B:a8}{d:G}(ho:A[i]? =ae B)(hg:B.guard=none)(hd:B.dst=ae d){n}(dn:d<n){t}{x}(bW:B.op= .makeSlice t x x)
 {st}{m:G} {k}(hx:st.ev x=ae (.c<|.I k (m:Int))) {bp}{ti f:TI} (oP:L t tt=ae ti) (hk:ti.kind= .sl bp) (pK:L bp tt=ae f) (T:ET) (tY:f.size=T.n)
  (hz:∀g:Gh,a4 g (av T T.et) (f.zero.map ZV.fC)) (hb:m*f.bytes<=281474976710656) (nz:m*T.n<=140737488355328) (l:G):
  mu P n A i st ((st.pm l<|.vec bp T<|bt m T.et).put d<|.c<|.X l) l (bH B.op.operands.toList,[.s d,.m l]):=by
 refine Z5 ho hg hd dn l (by simpa using nz) ?_
 intro F h U g W a C q
 have O:a.eval x= .int k (m:Int):=dJ C st x _ hx<|λR cq=>q R SX
 have y:=(fb v oP).kind
 rw[hk]at y
 let ⟨inf,D,H,K,z,r,yq⟩:=(fb v pK).info
 have b:Z (f.zero.map ZV.fC)=T.n:=de.length T _ _<|B7 T _ _<|hz g
 have N:z.cells=(f.zero.map ZV.fC).toArray:=E6
 have Q:(f.zero.map ZV.fC)≠[]:=by intro e;rw[e]at b;have:=T.B5;simp at b;omega
 have S:m*1<=m*T.n:=ja m T.B5
 have w:(inf.bytes:Int)*(m:Int)<=281474976710656:=by
  rw[K];have:(f.bytes:Int)*(m:Int)=((m*f.bytes:G):Int):=by rw[ic];simp
  rw[this];omega
 have p:=run_make (P:=P) W t bp inf z y D r k k m m Y Y w Y
 refine⟨(bt m<|f.zero.map ZV.fC).flatten,m,W,?_,J,J,J,?_,ax,?_⟩
 .rw[execOp,bW];have u:madeCells z.cells (m*inf.size)=((bt m<|f.zero.map ZV.fC).flatten).toArray:=by rw[H,tY,N,<-b,<-MU _ m Q];rfl
  simp only[cx]at p;rw[u]at p;simp only[O,dq,p,dM,gQ];rfl
 .rw[Z3,b]
 .intro j M;simp only[gQ]at M;have:=Z2 (f.zero.map ZV.fC) m j M;rw[b]at this;rw[this,List.getElem_replicate];exact B7 T _ _<|hz g
end
section
variable{P:bO}{tt:TT}{n:G}{Q:ia}{st:St}
def Ay(b:G)(T:ET)(xs:E T.den):C->C
 | .X a=>if a=b then .S T xs else .X a
 | .Y a m i off=>if a=b then .any else .Y a m i off
 |d=>d
def Cz(a:G)(T:ET)(xs:E T.den):E C->E C
 |[]=>[]
 |b::d=>Ay a T xs b::Cz a T xs d
def IG(a:G)(T:ET)(xs:E T.den):E (Bool×E C)->E (Bool×E C)
 |[]=>[]
 | (b,cs)::d=>(b,Cz a T xs cs)::IG a T xs d
def II(b:G)(T:ET)(xs:E T.den):AV->AV
 | .c x=> .c<|Ay b T xs x
 | .a cs=> .a<|Cz b T xs cs
 | .t d=> .t<|IG b T xs d
def yy(a:G)(T:ET)(xs:E T.den):E (G×AV)->E (G×AV)
 |[]=>[]
 | (t,v)::b=>(t,II a T xs v)::yy a T xs b
def SZ(a:G)(T:ET)(xs:E T.den):aC->aC
 | .box d f cs=> .box d f<|Cz a T xs cs
 |b=>b
def vw(a:G)(T:ET)(xs:E T.den):E (G×aC)->E (G×aC)
 |[]=>[]
 | (d,b)::f=>if d=a then vw a T xs f else(d,SZ a T xs b)::vw a T xs f
def Z6(a:G)(T:ET)(xs:E T.den)(t:G):∀l,L t (yy a T xs l)=(L t l).map (II a T xs)
 |[]=>rfl
 | (k,v)::b=>by
  simp only[yy,L];split
  .rfl
  .exact Z6 a T xs t b
def S4(b:G)(T:ET)(xs:E T.den)(t:G):∀l,L t (vw b T xs l)=if t=b then none else(L t l).map (SZ b T xs)
 |[]=>by simp[vw,L]
 | (k,v)::d=>by
  simp only[vw,L];split
  .rename_i a;subst a;rw[S4 k T xs t d];split
   .rfl
   .rename_i f;rw[j (λa=>f a.symm)]
  .rename_i a;simp only[L];split
   .rename_i g;subst g;rw[j a];rfl
   .exact S4 b T xs t d
def Z7 id T xs b:∀d∈(Ay id T xs b).al,d∈b.al:=by
 intro d a;cases b with
 |X k=>simp only[Ay]at a;split at a;simp[C.al]at a;exact a
 |Y k m i off=>simp only[Ay]at a;split at a;simp[C.al]at a;exact a
 |_=>exact a
def MV(f:G)(T:ET)(xs:E T.den):∀(b:E C),∀a∈b8 (Cz f T xs b),a∈b8 b
 |[],a,d=>d
 |g::b,a,d=>by simp only[Cz,b8,bg]at d⊢;exact d.imp (Z7 f T xs g a)<|MV f T xs b a
def Z8(g:G)(T:ET)(xs:E T.den):∀(d:E (Bool×E C)),∀a∈dX (IG g T xs d),a∈dX d
 |[],a,f=>f
 | (b,i)::d,a,f=>by simp only[IG,dX,bg]at f⊢;exact f.imp (MV g T xs i a)<|Z8 g T xs d a
def alD id T xs v:∀b∈(II id T xs v).al,b∈v.al:=by
 cases v with
 |c x=>exact Z7 id T xs x
 |a cs=>exact MV id T xs cs
 |t d=>exact Z8 id T xs d
section
variable{id:G}{T:ET}{xs:E T.den}{known:G->Prop}{g g':Gh}
def S5(b:gw known g g')(f:mQ (de g'.H T) T.n g'.H xs (g.γ id)):∀{a:C}{v:aT},(∀l∈a.al,known l)->c6 g a v->c6 g' (Ay id T xs a) v:=by
 intro a v d h;cases a with
 |X k=>
  simp only[Ay]
  split
  .rename_i e;subst e;simp only[c6]at h;subst h;exact f
  .exact c6.mono b d h
 |Y k m i off=>
  simp only[Ay]
  split
  .trivial
  .exact c6.mono b d h
 |_=>exact c6.mono b d h
def MW(i:gw known g g')(k:mQ (de g'.H T) T.n g'.H xs (g.γ id)):∀{b:E C}{vs:E aT},(∀a∈b8 b,known a)->a4 g b vs->a4 g' (Cz id T xs b) vs
 |[],_,_,d=>d
 |_::_,_,l,d=>by let ⟨v,m,p,s,h2⟩:=d;exact⟨v,m,p,S5 i k (λa f=>l a<|by simp[b8,f]) s,MW i k (λa f=>l a<|by simp[b8,f]) h2⟩
def Z9(m:gw known g g')(p:mQ (de g'.H T) T.n g'.H xs (g.γ id)):∀{s:E (Bool×E C)}{vs:E aT},(∀a∈dX s,known a)->dy g s vs->dy g' (IG id T xs s) vs
 |[],_,_,d=>d
 | (b,l)::_,_,u,d=>by
  let ⟨v,x,t,f,h2⟩:=d;refine⟨v,x,t,?_,Z9 m p (λa i=>u a<|by simp[dX,i]) h2⟩;have k:∀a∈b8 l,known a:=λa i=>u a (by simp[dX,i])
  match b,l,f with
  |true,l,f=>let ⟨vs,t,d⟩:=f;exact⟨vs,t,MW m p k d⟩
  |false,[l],f=>exact S5 m p (λa i=>k a<|by simp[b8,i]) f
def alE(d:gw known g g')(f:mQ (de g'.H T) T.n g'.H xs (g.γ id)){x}{v}(i:∀k∈x.al,known k)(b:bf g x v):bf g' (II id T xs x) v:=by
 cases x with
 |c y=>exact S5 d f i b
 |a cs=>let ⟨vs,e,b⟩:=b;exact⟨vs,e,MW d f i b⟩
 |t l=>let ⟨vs,e,b⟩:=b;exact⟨vs,e,Z9 d f i b⟩
end
def MY d{bp}{T}{xs}{N}{mem}{nx}{gd}(hl:L d mem=ae (.vec bp T xs)):Wk ⟨N,mem,nx,gd⟩ ⟨yy d T xs N,vw d T xs mem,nx,gd⟩:=by
 intro F og g W a h;have C:St.kn ⟨N,mem,nx,gd⟩ (.m d)=ae (.b<|.vec bp T xs):=Cx;have U:=h.cE d _ C;have main:∀z:Gh,gw (kb ⟨N,mem,nx,gd⟩) g z->mQ (de z.H T) T.n z.H xs (g.γ d)->Sub z.H W->(∀b o,b<F.w0.heap.size->¬F.own b->z.H b o=F.H0 b o)->(∀b o,cF (g.γ d)≠ae b->z.H b o=g.H b o)->z.γ=g.γ->
   aM F (kb ⟨yy d T xs N,vw d T xs mem,nx,gd⟩) (St.kn ⟨yy d T xs N,vw d T xs mem,nx,gd⟩) z W a:=by
  intro z u hX V xi hH hγ
  have hS:∀t X,St.kn ⟨yy d T xs N,vw d T xs mem,nx,gd⟩ (.s t)=ae (.v X)->∃v,St.kn ⟨N,mem,nx,gd⟩ (.s t)=ae (.v v)/\X=II d T xs v:=by intro t X e;simp only[St.kn,Z6,Option.map_map,bS]at e;let ⟨v,hv,he⟩:=e;cases he;exact⟨v,rI,J⟩
  have hM:∀j l,St.kn ⟨yy d T xs N,vw d T xs mem,nx,gd⟩ (.m j)=ae (.b l)->∃b,St.kn ⟨N,mem,nx,gd⟩ (.m j)=ae (.b b)/\l=SZ d T xs b/\j≠d:=by
   intro j l e;simp only[St.kn,S4]at e;split at e
   .simp at e
   .rename_i O;simp only[Option.map_map,bS]at e;let ⟨b,A,he⟩:=e;cases he;exact⟨b,by simp[St.kn,A],J,O⟩
  refine⟨h.size,h.defers,?_,?_,?_,?_,?_,V,h.below,h.le.trans u.H,xi,λd C=>⟨(h.fB d C).1,by rw[hγ];exact(h.fB d C).2⟩⟩
  .intro t X e;obtain⟨v,hv,rfl⟩:=hS t X e;exact alE u hX (λj D=>h.al _ _ hv j D)<|h.dH t v hv
  .intro j l e;obtain⟨b,A,rfl,O⟩:=hM j l e;have q:=h.cE j b A;have p:∀k,cF (g.γ j)=ae k->cF (g.γ d)≠ae k:=λk R r=>O (h.inj j d b _ k A C R r)
   cases b with
   |box E' bz cs=>
    let ⟨k,vs,rest,e1,B,w,y,G,e6⟩:=q
    exact⟨k,vs,rest,rL,B,MW u hX (λi K=>h.al _ _ A i K) w,y,λo=>by rw[hH k o (p k e1)];exact G o,by rw[hγ];exact e6⟩
   |vec E' T' ys=>
    rcases q with⟨e1,B⟩|⟨k,I,vs,e1,B,w,y,MZ,G,e6,e7⟩
    .exact .inl ⟨rL,B⟩
    .exact .inr ⟨k,I,vs,rL,B,w,y,MZ,λi K=>de.mono u.H _ _ _<|G i K,e6,λo=>by rw[hH k o (p k<|by rw[e1];rfl)];exact e7 o⟩
   |dS f first caps=>
    let ⟨us,ws,e1,B,w⟩:=q
    exact⟨us,ws,rL,dy.mono u (λi K=>h.al _ _ A i<|eH _ K) B,dy.mono u (λi K=>h.al _ _ A i<|gx _ K) w⟩
   |fz E' cs=>
    let ⟨k,vs,rest,e1,B,w,y,G⟩:=q
    exact⟨k,vs,rest,rL,B,a4.mono u (λi K=>h.al _ _ A i K) w,y,λo=>by rw[hH k o (p k e1)];exact G o⟩
   |mp ka va ys=>
    let ⟨k,es,e1,B,w,y,G⟩:=q
    exact⟨k,es,rL,B,iX.mono u (λi K=>h.al _ _ A i K) w,y,λo=>by rw[hH k o (p k<|by rw[e1];rfl)];exact G o⟩
   |it m n seen=>
    let ⟨k,b,e1,e0,B,y,G⟩:=q
    exact⟨k,b,rL,by rw[hγ];exact e0,B,y,λo=>by rw[hH k o (p k<|by rw[e1];rfl)];exact G o⟩
  .intro i j b l k e e' R r;let ⟨c,hc,_⟩:=hM i b e;let ⟨c',Fp,_⟩:=hM j l e';rw[hγ]at R r;exact h.inj i j c c' k hc Fp R r
  .intro k x e j D;cases k with
   |s t=>
    cases x with
    |v X=>obtain⟨v,hv,rfl⟩:=hS t X e;exact h.al _ _ hv j<|alD d T xs v j D
    |b l=>simp only[St.kn,bS]at e;let ⟨_,_,he⟩:=e;cases he
   |m i=>
    cases x with
    |v X=>simp only[St.kn,bS]at e;let ⟨_,_,he⟩:=e;cases he
    |b l=>
     obtain⟨b,A,rfl,_⟩:=hM i l e
     refine h.al _ _ A j ?_
     cases b with
     |box E' bz cs=>exact MV d T xs cs j D
     |vec E' T' ys=>exact D
     |dS f first caps=>exact D
     |fz E' cs=>exact D
     |mp ka va ys=>exact D
     |it m n seen=>exact D
  .intro i x e;cases x with
   |v X=>simp only[St.kn,bS]at e;let ⟨_,_,he⟩:=e;cases he
   |b l=>let ⟨b,A,_⟩:=hM i l e;exact h.dI _ _ A
 rcases U with⟨hγ,hx⟩|⟨b,I,vs,hγ,hh,vu,u,hlen,q,hN,hz⟩
 .refine⟨g,main g ⟨cD.refl _,λ_ _=>rfl⟩ ?_ h.sub h.fresh (λ_ _ _=>rfl) J⟩;subst hx;exact⟨none,0,hγ,ax,ax,.inl J⟩
 .let z:Gh:=⟨λl o=>if l=b then(if o<Z xs*T.n then vs[o]? else none)else g.H l o,g.γ⟩;have M:cD g.H z.H:=by
   intro l o v hv;by_cases e:l=b
   .subst e;rw[hz]at hv;cases hv
   .simp[z,e,hv]
  refine⟨z,main z ⟨M,λ_ _=>rfl⟩ ?_ ?_ ?_ ?_ J⟩
  .refine⟨ae ⟨b,0,none⟩,I,hγ,u,hlen,?_⟩;by_cases hx:xs=[]
   .exact .inl hx
   .refine .inr ⟨b,0,J,λk R=>⟨(az (k*T.n) vs).take T.n,de.length T _ _<|q k R,de.mono M T _ _<|q k R,λj D=>?_⟩⟩;have IJ:(k+1)*T.n<=I*T.n:=eB _ Y;have M0:(k+1)*T.n<=Z xs*T.n:=eB _ Y;rw[fZ,hY]at IJ M0;simp only[hZ,yx]at D;have jw:k*T.n+j<Z xs*T.n:=Y;simp only[z,cr,fc,sK,vk,jw];exact cT Y
  .intro l o v hv;by_cases e:l=b
   .subst e;simp only[z,cr]at hv;split at hv
    .simp[World.cell?,hh,hv]
    .cases hv
   .simp only[z,e,bV]at hv;exact h.sub l o v hv
  .intro l o S nB;have:l≠b:=by
    intro e;subst e;rcases hN with h1|h1
    .omega
    .exact nB h1
   simp only[z,this,bV];exact h.fresh l o S nB
  .intro l o S;have:l≠b:=λe=>S (by rw[hγ,e];rfl)
   simp[z,this]
def dm id{k}{T}{xs}{d}{f}{mem}{g}{i}(l:L id mem=ae (.vec k T xs)){b}{a}(m:yy id T xs f=b)(p:vw id T xs mem=a)
  (s:TR P n d ⟨b,a,g,i⟩ Q):TR P n d ⟨f,mem,g,i⟩ Q:=by
 subst m p
 exact fg (MY id l) s
def xj t{T}{xs}{d}{b}{mem}{f}{i}(hl:L t b=ae (.c<|.S T xs))(l:Z xs*T.n<=140737488355328->TR P n d ⟨b,mem,f,i⟩ Q):TR P n d ⟨b,mem,f,i⟩ Q:=by intro F m g W a k;have p:c6 g (.S T xs) (a.tmps.getD t undef):=k.dH t (.c<|.S T xs) Cx;let ⟨_,_,_,_,h2,_⟩:=p;exact l h2 F m g W a k
def alF{b}{a}{f i}{d t}{x}{ty}{pos}{p}{os}{u}{mem}{z}{A}{ks}{Q:St->Prop}(B:cw P tt=af)
 T (m:G) {k}{v}(hx:St.ev ⟨u,mem,z,A⟩ x=ae (.c<|.I k v)) (hv:v=(m:Int)) {D}{ti l}(H:L t tt=ae ti) (hk:ti.kind= .sl D) (N:L D tt=ae l) (W:l.size=T.n)
  (hz:∀g:Gh,a4 g (av T T.et) (l.zero.map ZV.fC)) (hb:m*l.bytes<=281474976710656) (nz:m*T.n<=140737488355328)
  (cP:RG P n b a f (i+1) os ⟨(d,.c<|.X<|1000000*f+1000*i)::u,(1000000*f+1000*i,.vec D T<|bt m T.et)::mem,z,A⟩ (g5 a ks (bH [x,x],[.s d,.m<|1000000*f+1000*i])) Q) (dn:dK d n=af:=by rfl):
  RG P n b a f i (⟨ae d,.makeSlice t x x,ty,pos,p,none⟩::os) ⟨u,mem,z,A⟩ ks Q:=by
 subst hv
 exact mY (λC=>alC B C J J (cQ dn) J hx H hk N T W hz hb nz _)<|mZ cP
def alG{p}{a}{D i}{t}{x l}{ty}{pos}{s}{H}{b}{mem}{d}{f}{N}{Q:St->Prop}(u:cw P tt=af)
 {g m k}{W}{T}{xs}{vy}(hx:St.ev ⟨b,mem,d,f⟩ x=ae (.c<|.Y g m k 0)) (hl:L g mem=ae (.vec W T xs)) (hy:St.ev ⟨b,mem,d,f⟩ l=ae vy) (hm:T.n=m) {ag}(v:pJ tt t=ae (m,ag)) (cJ:T.den) (z:lP vy=ae (av T cJ)) (hk:k<Z xs)
  (h:RG P n p a D (i+1) H ⟨b,(g,.vec W T<|xs.set k cJ)::mem,d,f⟩ (g5 a N (bH [x,l]++cV [g],[.m g])) Q):
  RG P n p a D i (⟨none,.store t x l,ty,pos,s,none⟩::H) ⟨b,mem,d,f⟩ N Q:=by
 refine mY (λC=>⟨_,_,ZO u C J J J hx hy hl hm v z hk _,?_,MG ⟨b,mem,d,f⟩ g _,?_,λk hk=>kK⟩)<|mZ h
 .intro A B;rcases bg.1 B with h|h
  .rcases bg.1 h with h|h
   .exact eC _ x A h
   .exact eC _ l A h
  .exact k9 _ [g] A h
 .intro k hk;simp only[dz,fL,bg]at hk;rcases hk with(h|h)|h
  .exact eH _<|eP ⟨b,mem,d,f⟩ [x,l] k uf
  .exact eH _<|eP ⟨b,mem,d,f⟩ [x,l] k xc
  .exact gx _<|kg ⟨b,mem,d,f⟩ [g] k h
end
section
variable{P:bO}{tt:TT}{n:G}
def M1:∀(T:ET)(x:T.den),Z (av T x)=T.n
 | .int _,_=>rfl
 | .bool,_=>rfl
 | .z,_=>rfl
 | .q,_=>rfl
 | .sl _,_=>rfl
 | .pr A B,x=>by simp[av,M1 A,M1 B]
def Z'{g:Gh}(T:ET):∀(xs:E T.den)(vs:E aT),a4 g (xs.flatMap<|av T) vs->∀i(h:i<Z xs),de g.H T xs[i] ((az (i*T.n) vs).take T.n)
 |[],_,_,i,h=>by simp at h
 |x::xs,vs,hr,i,h=>by
  rw[lQ]at hr;obtain⟨a,b,rfl,d,f⟩:=H5 hr;have k:Z a=T.n:=by rw[d.length,M1]
  cases i with
  |zero=>
   simp only[pM,qx,w6]
   rw[yo Y,jy Y]
   exact B7 T x a d
  |succ i=>
   simp only[Ci]
   rw[show(i+1)*T.n=Z a+i*T.n by rw[fZ,hY];omega,<-rF,List.drop_left]
   exact Z' T xs b f i eQ
def xk(sz:G):G->G->E (G×G)
 |_,0=>[]
 |k,m+1=>(k*sz,sz)::xk sz (k+1) m
def M2(sz:G):∀(m k i:G)(x:G×G),(xk sz k m)[i]? =ae x->x=((k+i)*sz,sz)
 |0,_,_,_,a=>by simp[xk]at a
 |m+1,k,0,x,a=>by simp[xk]at a;simp[<-a]
 |m+1,k,i+1,x,a=>by simp only[xk,w5]at a;have:=M2 sz m (k+1) i x a;rw[this,(Y:k+1+i=k+(i+1))]
def Fq(l:E C):G->E C
 |0=>[]
 |m+1=>l++Fq l m
def M3{g:Gh}{l:E C}{vs:E aT}(a:a4 g l vs):∀m,a4 g (Fq l m) ((bt m vs).flatten)
 |0=>rfl
 |m+1=>by rw[Aw,MS];exact a4.append a<|M3 a m
def aac{l:E C}(d:b8 l=[]):∀m,b8 (Fq l m)=[]
 |0=>rfl
 |m+1=>by
  have:=aac d m;apply S6.2;intro f b;rcases EX _ _ f b with a|a
  .rw[d]at a;cases a
  .rw[this]at a;cases a
def xl(tt:TT)(g:St)(t b:G)(a:E (G×ff)):aw (G×TI×E C):=match L t tt with
 |some i=>(match i.kind with
  | .sl f=>(match L f tt with
   |some d=>(match Cp (xk d.size 0 b) g (Fq (d.zero.map ZV.qm) b) a with
    |some cs=>ae (f,d,cs)
    |none=>none)
   |none=>none)
  |_=>none)
 |none=>none
def aad(cC:cw P tt=af){gP}{u:G->Prop}{σ}{g}{W}{a}(N:aM gP u σ g W a){st}{aF}{t b}{d}(bW:aF.op= .buildSlice t b d){bp}{ei}{T}{xs}(hT:ei.size=T.n)(Q:Z xs=b)(alH:b*T.n<=16777216)
  (l:xl tt st t b d.toList=ae (bp,ei,xs.flatMap<|av T)) (fS:∀kx∈pI st aF.op,σ kx.1=ae kx.2):
  ∃(vs:E aT)(v:G)(W1:cA),(execOp a.eval aF).run P W= .ok (.value<|.slice (ae ⟨W.heap.size,0,none⟩) (Z xs) v) {W1 with heap:=W.heap.push<|.cells vs.toArray bp (0,0)}/\W1.os=W.os/\W1.tape=W.tape/\W1.output=W.output/\Z vs=v*T.n/\Z xs<=v/\
    ∀i(cP:i<Z xs),de g.H T xs[i] ((az (i*T.n) vs).take T.n):=by
 unfold xl at l
 split at l
 .rename_i ti I;split at l
  .rename_i V hk;split at l
   .rename_i k pK;split at l
    .rename_i cs L;simp only[ar,bQ]at l;obtain⟨rfl,rfl,rfl⟩:=l;have Y:=(fb cC I).kind;rw[hk]at Y;let ⟨inf,xb,K,_,z,hz,yq⟩:=(fb cC pK).info;have X:z.cells=(k.zero.map ZV.fC).toArray:=E6;let ⟨us,c,jz,hu3,hu4⟩:=Ix N st (xk k.size 0 b) (λi=>ae (i*k.size,k.size)) (λi x cP=>by rw[M2 _ _ _ _ _ cP];simp) d.toList _ _ _ L (M3 (Ao g k.zero) b) (λp hp kx M=>fS kx<|by rw[bW];refine iY.2 ⟨p.2,?_,M⟩;simp only[Op.operands,kf];exact⟨p,hp,J⟩) S7;have A:=jz.length;have O:∀q:E T.den,Z (q.flatMap<|av T)=Z q*T.n:=by
      intro q;induction q with
      |nil=>simp
      |cons y q ih=>simp[M1,ih,fZ,IK]
     rw[O]at A;refine⟨us,Z xs,W,?_,J,J,J,A,aN _,Z' T xs us jz⟩;have B:execOp a.eval aF=(do pure (.value<|<-IL t b (d.map λ(i,x)=>(i,a.eval x)))):=w8;have r:(d.map λ(i,x)=>(i,a.eval x)).toList=d.toList.map λp=>(p.1,a.eval p.2):=ax
     have C:Z (k.zero.map ZV.fC)=k.size:=S8;have S9:0<k.size:=by rw[hT];exact T.B5
     have R:(zeroValue V).run P W= .ok z W:=SP;have m:((Z4<|b*k.size).map<|λi=>(k.zero.map ZV.fC).toArray[i%(k.zero.map ZV.fC).toArray.size]!)=((bt b<|k.zero.map ZV.fC).flatten).toArray:=by have:=MU (k.zero.map ZV.fC) b (by intro e;rw[e]at C;simp at C;omega);rw[C]at this;exact this
     have hb:(IL t b<|d.map λ(i,x)=>(i,a.eval x)).run P W= .ok (.slice (ae ⟨W.heap.size,0,none⟩) b b) {W with heap:=W.heap.push<|.cells us.toArray V (0,0)}:=by
      unfold IL;rw[dq,run_underlying Y];simp only[dM];rw[dq,run_sizeOf xb];simp only[dM,K];rw[j (by rw[hT];omega)];by_cases w:b*k.size=0
      .have D:b=0:=by
        rcases Nat.mul_eq_zero.1 w with cP|cP
        .exact cP
        .omega
       subst D;have S:us=[]:=gA (by rw[A,Q];simp);subst S;have s:=c;simp only[Fs,List.flatten_nil]at s;have U:∀f:G->aT,(Z4 0).map f= #[]:=λf=>by simp
       simp only[pM,cr,pure_bind,U,r,s];rfl
      .rw[j w];simp only[pure_bind,dq,R,dM,X,m,r,c];rfl
     rw[B,dq,hb,Q];rfl
    .simp at l
   .simp at l
  .simp at l
 .simp at l
def alI{k}{f}{D i}{d t g}{a}{ty}{pos}{p}{H}{u}{mem}{v}{x}{N}{Q:St->Prop}(z:cw P tt=af)
 T xs {bp}{W}(hv:xl tt ⟨u,mem,v,x⟩ t g a.toList=ae (bp,W,xs.flatMap<|av T)) (hT:W.size=T.n) (l:Z xs=g) (b:eL (g*T.n) 16777216=af)
  (cP:RG P n k f D (i+1) H ⟨(d,.c<|.S T xs)::u,mem,v,x⟩ (g5 f N (bH (Op.buildSlice t g a).operands.toList,[.s d])) Q) (A:dK d n=af:=by rfl):
  RG P n k f D i (⟨ae d,.buildSlice t g a,ty,pos,p,none⟩::H) ⟨u,mem,v,x⟩ N Q:=
 mY (λC=>alB C J J (cQ A) _ (by have:=cQ b;rw[l];omega)<|λ_ _ _ _ _ _ m B=>aad z m J hT l (cQ b) hv B) (mZ cP)
def alJ{k}{f}{l i}{d t g}{a}{ty}{pos}{v}{H}{x}{mem}{z}{A}{N}{Q:St->Prop}(B:cw P tt=af)
 T xs {W}{ei}(hv:xl tt ⟨x,mem,z,A⟩ t g a.toList=ae (W,ei,xs.flatMap<|av T)) (hT:ei.size=T.n) (p:Z xs=g) (b:eL (g*T.n) 16777216=af)
  (cP:RG P n k f l (i+1) H ⟨(d,.c<|.X<|1000000*l+1000*i)::x,(1000000*l+1000*i,.vec W T xs)::mem,z,A⟩ (g5 f N (bH (Op.buildSlice t g a).operands.toList,[.s d,.m<|1000000*l+1000*i])) Q) (D:dK d n=af:=by rfl):
  RG P n k f l i (⟨ae d,.buildSlice t g a,ty,pos,v,none⟩::H) ⟨x,mem,z,A⟩ N Q:=
 mY (λK=>Z5 K J J (cQ D) _ (by have:=cQ b;rw[p];omega)<|λ_ _ _ _ _ _ u C=>aad B u J hT p (cQ b) hv C) (mZ cP)
end
section
variable{P:bO}{tt:TT}{n:G}
def aae{g}{T}{f}{v}(cP:c6 g (.S T f) v):
  ∃d:E aT,(∀W:cA,Sub g.H W->(Az T.n (Z f) v).run P W= .ok d.toArray W)/\Z d=Z f*T.n/\(∀i(cP:i<Z f),de g.H T f[i] ((az (i*T.n) d).take T.n))/\∀u∈d,oO u=af:=by
 obtain⟨a,o,rfl,G,I,s⟩:=cP
 by_cases e:f=[]
 .subst e;refine⟨[],λW _=>?_,ax,ax,ax⟩;cases a with
  |none=>simp[Az,pure]
  |some a=>simp[Az,loadCells,loadCellsFrom,pure]
 .rcases s with s|⟨b,off,rfl,s⟩
  .exact aJ s e
  .let d:=(cy<|Z f*T.n).map λk=>(g.H b<|off+k).getD undef
   have t:Z d=Z f*T.n:=by simp[d]
   have l:∀i(B:i<Z f),∃m,Z m=T.n/\de g.H T f[i] m/\(az (i*T.n) d).take T.n=m/\∀j(C:j<Z m),g.H b (off+(i*T.n+j))=ae m[j]:=by
    intro i B;let ⟨m,hl,hr,hc⟩:=s i B;have D:(i+1)*T.n<=Z f*T.n:=eB _ Y;rw[fZ,hY]at D;refine⟨m,hl,hr,?_,λj C=>by rw[<-sJ];exact hc j C⟩;apply vz
    .simp[d];omega
    .intro j q K;simp only[sK,vk,d,CA,M4];rw[<-sJ,hc j K];rfl
   have p:∀k(N:k<Z d),∃v,g.H b (off+k)=ae v/\d[k]=v/\oO v=af:=by
    intro k N;have x:=T.B5;have Q:k<Z f*T.n:=Y;have r:k/T.n<Z f:=Ax (by rw[ic];exact Q);have J:k%T.n<T.n:=gJ _ x;let ⟨m,hl,hr,z,hc⟩:=l (k/T.n) r;have X:k/T.n*T.n+k%T.n=k:=by rw[ic];exact sU k T.n
    have:=hc (k%T.n) Y;rw[X]at this;refine⟨_,this,?_,?_⟩
    .simp only[d,CA,M4,this,sV]
    .exact(Ae (g:=g) T _ _ hr).one (E0 T _) _<|sW _
   refine⟨d,λW A=>?_,t,λi B=>?_,λu w=>?_⟩
   .simp only[Az,loadCells];have:=run_loadCellsFrom (P:=P) (W:=W) b (Z f*T.n) 0 off d #[] t (λj C=>by let ⟨v,y,c,_⟩:=p j C;rw[jZ,A _ _ _ y,c]);simpa using this
   .let ⟨m,hl,hr,z,_⟩:=l i B;rw[z];exact hr
   .obtain⟨k,N,rfl⟩:=CB w;let ⟨v,_,c,F⟩:=p k N;rw[c];exact F
def alK{W}{x z ty A H}{d:TypeInfo}(l:P.underlying x=ae (.slice A))(p:P.underlying z=ae (.slice H))(N:P.info? A=ae d){b a f}{s}{m}(Q:(Builtin.lenOf s).run P W= .ok m W)
 {g vs}{B}(t:(Az d.size m s).run P W= .ok g.toArray W) (T:W.heap[b]? =ae (.cells vs.toArray B (0,0))) (i:∀u∈g,oO u=af) (v:a+m<=f) (D:a*d.size+Z g<=Z vs):
  (yz #[x,z] ty #[.slice (ae ⟨b,0,none⟩) a f,s]).run P W= .ok (.slice (ae ⟨b,0,none⟩) (a+m) f) (ji W b (cK vs g<|a*d.size) B):=by
 have k:=Al (P:=P) b g W vs (a*d.size) 0 T Y i
 simp only[jZ]at k
 unfold yz
 simp only[vg,n9,w5]
 rw[dq,run_underlying l]
 simp only[dM]
 rw[dq,run_sizeOf N]
 simp only[dM]
 rw[dq,run_underlying p]
 simp only[dM,pure_bind,jh,bV,Fu,cr]
 rw[dq,Q]
 simp only[dM,v,cr]
 rw[dq,t]
 simp only[dM,mW,fc]
 rw[dq,k]
 rfl
def IM(N:G->Prop)(g:Gh)(W:cA)(d:eh)(T:ET)(xs:E T.den)(v:aT):Prop:=
 (v= .slice none 0 0/\xs=[])\/∃b a,∃vs:E aT,v= .slice (ae ⟨b,0,none⟩) (Z xs) a/\W.heap[b]? =ae (.cells vs.toArray d (0,0))/\
   Z vs=a*T.n/\Z xs<=a/\Z xs*T.n<=140737488355328/\(∀i(h:i<Z xs),de g.H T xs[i] ((az (i*T.n) vs).take T.n))/\N b/\∀o,g.H b o=none
def aaf{a:Type}(vs:E a) n i m(b:i<m):c n ((c (m*n) vs).drop<|i*n)=(az (i*n) vs).take n:=by have d:(i+1)*n<=m*n:=eB _ b;rw[fZ,hY]at d;rw[List.drop_take,List.take_take];congr 1;omega
def alL{b:Type}(a vs:E b) n m i(d:Z a=m*n)(f:m<=i):c n (az (i*n)<|a++vs)=(az ((i-m)*n) vs).take n:=by have g:m*n<=i*n:=eB _ f;rw[List.drop_append,vo Y,tZ,d,Nat.sub_mul]
def aag{b:Type}(a vs:E b) n m i(g:Z a=m*n)(d:i<m):c n (az (i*n)<|a++vs)=(az (i*n) a).take n:=by have f:(i+1)*n<=m*n:=eB _ d;rw[fZ,hY]at f;rw[Cj Y,yo b6]
def aah{H}{T}{xs a}{d f rest}(g:Z d=Z xs*T.n)(k:Z f=Z a*T.n)(l:∀i(b:i<Z xs),de H T xs[i] ((az (i*T.n) d).take T.n))(m:∀i(b:i<Z a),de H T a[i] ((az (i*T.n) f).take T.n)):
  ∀i(b:i<Z (xs++a)),de H T (xs++a)[i] (c T.n<|az (i*T.n)<|d++f++rest):=by
 intro i p
 rw[List.getElem_append]
 split
 .rename_i b;rw[mX,aag d _ T.n (Z xs) i g b];exact l i b
 .rename_i b;simp only[iL]at p;rw[mX,alL d _ T.n (Z xs) i g Y,aag f _ T.n (Z a) _ k Y];exact m _ Y
def alM{N:G->Prop}{g}{W}(p:Sub g.H W){Q E2 t1 t2 ty}{T}{xs m}{v cN}{f:TypeInfo}{z}(Fv:P.underlying t1=ae (.slice Q))(jz:P.underlying t2=ae (.slice E2))(hi:P.info? Q=ae f)(hz:f.zero=ae z)(vB:z.cells.size=f.size)(hT:f.size=T.n)
  (hv:IM N g W Q T xs v) (hy:c6 g (.S T m) cN) (hb:((Z xs+Z m)+(Z xs+Z m)/4+192)*f.bytes<=281474976710656) (nz:(Z xs+Z m)*T.n<=140737488355328) (hN:N W.heap.size):
  ∃v' s,(yz #[t1,t2] ty #[v,cN]).run P W= .ok v' s/\IM N g s Q T (xs++m) v'/\W.heap.size<=s.heap.size/\(∀k,k<W.heap.size->cF v≠ae k->s.heap[k]? =W.heap[k]?)/\s.os=W.os/\s.tape=W.tape/\s.output=W.output/\Sub g.H s/\(∀k,cF v'=ae k->W.heap.size<=k\/cF v=ae k):=by
 let ⟨us,r,x,L,M⟩:=aae (P:=P) hy
 have A:Sub g.H W.drew:=p
 have K:=r W p
 have O:=r W.drew A
 have X:∀o,g.H W.heap.size o=none:=by
  intro o;cases hv:g.H W.heap.size o with
  |none=>rfl
  |some v=>
   have:=Cm W _<|p _ _ _ hv
   simp at this
 have B:∀w':cA,(Builtin.lenOf cN).run P w'= .ok (Z m) w':=by obtain⟨a,C,rfl,_⟩:=hy;intro w';rfl
 have R:=T.B5
 have D:∀(base:aw Addr)(d:G)(l:E aT),v= .slice base (Z xs) d->(Az f.size (Z xs)<|.slice base (Z xs) d).run P W.drew= .ok l.toArray W.drew->Z l=Z xs*T.n->(∀i(h:i<Z xs),de g.H T xs[i] ((az (i*T.n) l).take T.n))->d<Z xs+Z m->
   ∃v' s,(yz #[t1,t2] ty #[v,cN]).run P W= .ok v' s/\IM N g s Q T (xs++m) v'/\W.heap.size<=s.heap.size/\(∀k,k<W.heap.size->cF v≠ae k->s.heap[k]? =W.heap[k]?)/\s.os=W.os/\s.tape=W.tape/\s.output=W.output/\Sub g.H s/\(∀k,cF v'=ae k->W.heap.size<=k\/cF v=ae k):=by
  intro base d l hv U V hor jw
  subst hv
  have AA:Src P f.size t2 cN (Z m) us W:=⟨.inl ⟨_,jz⟩,B,by rw[hT];exact K,by rw[hT];exact O,by rw[hT];exact x,λu hu=>by have:=M u hu;revert this;cases u<;>simp[oO,Value.oneCell']⟩
  have F:((Z xs+Z m:G):Int)<=9223372036854775807:=by have:(Z xs+Z m)*1<=(Z xs+Z m)*T.n:=ja _ R;omega
  have hr:=run_append_grow_src (P:=P) W t1 t2 ty Q f z Fv hi hz base (Z xs) d l U cN (Z m) us AA jw F<|growslice_fits_wide jw hb
  have xa:=grownCap_ge W (Z xs+Z m) d Q
  refine⟨_,_,hr,.inr ⟨W.heap.size,grownCap W (Z xs+Z m) d Q,l++us++(Builtin.zeroCells z.cells<|grownCap W (Z xs+Z m) d Q-(Z xs+Z m)).toList,ax,by rw[show W.heap.size=W.drew.heap.size from J,heap_alloc_new];congr 2;apply EV;simp,?_,by simpa using xa,by simpa using nz,aah V x hor L,hN,X⟩,ax,?_,J,J,J,?_,?_⟩
  .simp only[iL,V,x,IN,size_zeroCells,vB,hT,<-fZ];congr 1;omega
  .intro k I _;exact heap_alloc_old W.drew _ I
  .exact Ck A _
  .intro k I;simp only[cF,ar]at I;exact .inl Y
 rcases hv with⟨rfl,rfl⟩|⟨b,C,vs,rfl,hh,q,hle,ayw,hr,hNb,hH⟩
 .by_cases hys:m=[]
  .subst hys;refine⟨.slice none 0 0,W,?_,.inl ⟨J,J⟩,aN _,λ_ _ _=>rfl,J,J,J,p,by simp[cF]⟩;have h0:us=[]:=gA (by simpa using x);subst h0;rw[<-hT]at K;simp[yz,run_underlying Fv,run_underlying jz,sizeOf,typeInfo,hi,B];have h3:(Az f.size 0 cN).run P W= .ok #[] W:=by simpa using K
   rw[h3];rfl
  .have:=cR.2 hys;exact D none 0 [] J (run_firstCells_none W.drew _ 0 0 0) ax ax (by simpa using this)
 .by_cases t:Z xs+Z m<=C
  .have mU:b<W.heap.size:=(fJ.1 hh).1;have w:Z xs*f.size+Z us<=Z vs:=by rw[x,q,hT,<-fZ];exact eB _ t
   have jx:=alK (P:=P) (ty:=ty) Fv jz hi (B W) (by rw[hT];exact K) hh M t w;refine⟨_,_,jx,.inr ⟨b,C,cK vs us<|Z xs*f.size,ax,EW mU,by rw[yn _ _ _ w];exact q,by simpa using t,by simpa using nz,?_,hNb,hH⟩,An,?_,J,J,J,Am p hH,?_⟩
   .unfold cK;rw[hT];refine aah ?_ x (λi hi=>?_) L
    .simp only[hZ];rw[q];have:=eB T.n hle;omega
    .rw[aaf _ _ _ _ hi];exact hr i hi
   .intro k _ I;exact ym (λe=>I<|by simp[cF,e])
   .intro k I;exact .inr I
  .have ayx:=eB T.n hle;have IP:(c (Z xs*T.n) vs).length=Z xs*T.n:=by rw[hZ,q];omega
   refine D (ae ⟨b,0,none⟩) C (c (Z xs*T.n) vs) J ?_ IP (λi hi=>by rw[aaf _ _ _ _ hi];exact hr i hi) Y;rw[hT];refine run_firstCells_some W.drew T.n (Z xs) ⟨b,0,none⟩ (Z xs) C _ IP ?_;intro j u hj;let ⟨EJ,wY⟩:=qn.1 hj;simp only[sK]at wY;simp only[mW,fc];have IQ:W.drew.heap[b]? =ae (.cells vs.toArray Q (0,0)):=hh;rw[w7 IQ j (by simp at EJ;omega),wY]
def Fw{a:Act}{f}{b:Builtin}{args}{d}(g:f.op= .call ⟨.builtin b,args,d⟩){W W'}{v}(i:∀k,(Go.builtin b d f.type k<|args.map a.eval).run P W= .ok (.value v) W'):(execOp a.eval f).run P W= .ok (.value v) W':=by rw[execOp,g];simp only[resolve,pure_bind,invoke];exact i _
def vC:E G->E (Key×aw Info)
 |[]=>[]
 |id::a=>(.m id,none)::vC a
def CC:E G->E (G×aC)->E (G×aC)
 |[],l=>l
 |id::a,l=>CC a<|ud id l
def S' ids t:aE (vC ids) (.s t)=none:=by
 induction ids with
 |nil=>rfl
 |cons id r a=>simp[vC,aE,a]
def CE(a:G):∀(b:E G),aE (vC b) (.m a)=if a∈b then ae none else none
 |[]=>by simp[vC,aE]
 |id::d=>by
  simp only[vC,aE,Key.m.injEq,b9];by_cases f:id=a
  .simp[f]
  .rw[j f,CE a d];by_cases h2:a∈d
   .simp[h2]
   .have:¬(a=id\/a∈d):=by rintro(e|e);exact f e.symm;exact h2 e
    rw[j h2,j this]
def aaj(a:G):∀(b:E G)(l:E (G×aC)),L a (CC b l)=if a∈b then none else L a l
 |[],l=>by simp[CC]
 |id::f,l=>by
  simp only[CC];rw[aaj a f,Cq];by_cases d:id=a
  .simp[d]
  .have:¬(a=id):=λe=>d e.symm
   simp[d,this]
def alP(a:St) d new ids x b:(⟨(d,x)::a.sl,(new,b)::CC ids a.mem,a.nx,a.gd⟩:St).kn=bs a.kn ((.s d,ae<|.v x)::(.m new,ae<|.b b)::vC ids):=by
 funext k;cases k with
 |s t=>
  by_cases e:d=t
  .simp[St.kn,L,bs,aE,e]
  .simp[St.kn,L,bs,aE,e,S']
 |m j=>
  by_cases e:new=j
  .simp[St.kn,L,bs,aE,e]
  .simp only[St.kn,L,bs,aE,e,reduceCtorEq,Key.m.injEq,bV,aaj,CE];split<;>simp
def aak(cC:cw P tt=af){ops}{i}{aF:a8}{d:G}(ho:ops[i]? =ae aF)(hg:aF.guard=none)(hd:aF.dst=ae d){n}(dn:d<n){x B}{t1 t2}(bW:aF.op= .call ⟨.builtin .append,#[x,B],#[t1,t2]⟩)
 {A}{ids}{bp E2:eh} {T}{xs ys:E T.den} (hx:(∃f,ids=[f]/\A.ev x=ae (.c<|.X f)/\L f A.mem=ae (.vec bp T xs))\/(ids=[]/\A.ev x=ae (.c<|.V<|.slice none 0 0)/\xs=[]))
  (hy:A.ev B=ae (.c<|.S T ys)) {ti ti2 ei:TI} (oP:L t1 tt=ae ti) (D:ti.kind= .sl bp) (alQ:L t2 tt=ae ti2) (IJ:ti2.kind= .sl E2) (pK:L bp tt=ae ei) (tY:ei.size=T.n) (M5:Z ei.zero=T.n)
  (hb:((Z xs+Z ys)+(Z xs+Z ys)/4+192)*ei.bytes<=281474976710656) (nz:(Z xs+Z ys)*T.n<=140737488355328) (l:G):
  mu P n ops i A ⟨(d,.c<|.X l)::A.sl,(l,.vec bp T<|xs++ys)::CC ids A.mem,A.nx,A.gd⟩ l (bH [x,B]++cV ids,.s d:: .m l::cV ids):=by
 refine⟨cH A x++cH A B++fK A ids,(.s d,ae<|.v<|.c<|.X l)::(.m l,ae<|.b<|.vec bp T<|xs++ys)::vC ids,?_,?_,alP A d l ids _ _,?_,?_⟩
 .intro F ly Q known σ g W a K q aW w hK;have vD:c6 g (.S T ys) (a.eval B):=dJ aW A B _ hy<|λR cq=>w R eK;have hv:IM F.N g W bp T xs (a.eval x)/\(∀k,cF (a.eval x)=ae k->∃f b,ids=[f]/\σ (.m f)=ae (.b b)/\cF (g.γ f)=ae k):=by
   rcases hx with⟨f,rfl,hx,hl⟩|⟨rfl,hx,rfl⟩
   .have vE:a.eval x=g.γ f:=dJ aW A x _ hx<|λR cq=>w R eK;have I:σ (.m f)=ae (.b<|.vec bp T xs):=w (.m f,.b<|.vec bp T xs) rB;rw[vE];exact⟨aW.cE f _ I,λk D=>⟨f,_,J,I,D⟩⟩
   .have vE:a.eval x= .slice none 0 0:=dJ aW A x _ hx<|λR cq=>w R eK;rw[vE];exact⟨.inl ⟨J,J⟩,by simp[cF]⟩
  let ⟨hv,IS⟩:=hv;have h1:=(fb cC oP).kind;rw[D]at h1;have h2:=(fb cC alQ).kind;rw[IJ]at h2;let ⟨inf,xb,xm,Fy,z,yA,yq⟩:=(fb cC pK).info;have vB:z.cells.size=inf.size:=by
   have:Z z.cells.toList=Z (ei.zero.map ZV.fC):=by rw[yq]
   simp only[IN,c7]at this;omega
  let ⟨v',W',jx,alR,gY,alS,e1,e2,e3,vG,M6⟩:=alM (P:=P) (ty:=aF.type) aW.sub h1 h2 xb yA vB Y hv vD (by rw[Fy];exact hb) nz<|.inl aW.below.size;unfold wpOp;simp only[ho,gZ,hg,cr];refine .inl ?_;unfold pG;rw[Fw bW (W':=W') (v:=v') (by have e:(#[x,B]:Array ff).map a.eval= #[a.eval x,a.eval B]:=ax;intro cs;rw[e];simp only[Go.builtin,dq,jx,dM];rfl)];simp only[oL,hd];have CF:d<a.tmps.size:=nv;let O:Gh:=⟨g.H,λf=>if f=l then v' else g.γ f⟩;have Fz:gw known g O:=⟨cD.refl _,λf p=>by
   have:f≠l:=λe=>q<|e▸p
   simp[O,this]⟩
  have U:∀f∈ids,∃b,σ (.m f)=ae (.b b):=by
   intro f p;rcases hx with⟨pN,rfl,hx,hl⟩|⟨rfl,_⟩
   .simp only[iM]at p;subst p;exact⟨_,w (.m f,.b<|.vec bp T xs) rB⟩
   .cases p
  have CG:∀f∈ids,f≠l:=λf p e=>by let ⟨b,hb⟩:=U f p;exact q<|e▸aW.dI _ _ hb
  refine hK O _ _<|aW.step (chg:=λj=>j∈ids) (g':=O) ⟨Fz,λ_ _ _=>rfl,vG,gY,?_,e1,e2,e3⟩ _ l q oM aW.defers ?_ ?_ ?_ ?_ ?_ ?_
  .intro k D M;refine alS k D<|λe=>?_;obtain⟨f,b,rfl,I,lU⟩:=IS k e;exact M f ax lU
  .intro t ht;have M:d≠t:=ua;simp[iq,lM M]
  .intro f p;refine⟨?_,U f p⟩;simp only[aE,reduceCtorEq,bV,Key.m.injEq,CE,p,cr];split<;>simp
  .intro t u ht;simp only[aE]at ht;split at ht
   .rename_i e;simp only[Key.s.injEq]at e;simp only[ar,Info.v.injEq]at ht;subst e;subst ht;simp[iq,CF,bf,c6,O]
   .simp[S']at ht
  .intro f b ht;simp only[aE,reduceCtorEq,bV]at ht;split at ht
   .rename_i e;simp only[Key.m.injEq]at e;subst e;simp only[ar,Info.b.injEq]at ht;subst ht;have hr:IM F.N O W' bp T (xs++ys) (O.γ l):=by
     have e:O.γ l=v':=by simp[O]
     rw[e];exact alR
    refine⟨hr,.inr ⟨J,λk D=>?_⟩⟩;simp only[O,cr]at D;rcases M6 k D with h|h
    .exact .inl h
    .let ⟨f,b,CH,I,lU⟩:=IS k h;refine .inr ⟨f,b,I,?_,lU⟩;have M:=CG f (by simp[CH]);simp only[aE,reduceCtorEq,bV,Key.m.injEq,Ne.symm M,CE];simp[CH]
   .rw[CE]at ht;split at ht<;>simp at ht
  .intro k B ht;simp only[aE]at ht;split at ht
   .simp only[ar]at ht;subst ht;intro f p;simp[Info.al,AV.al,C.al]at p;exact .inr p
   .split at ht
    .simp only[ar]at ht;subst ht;intro f p;simp[Info.al,aC.al]at p
    .cases k with
     |s t=>simp[S']at ht
     |m j=>rw[CE]at ht;split at ht<;>simp at ht
  .intro f B ht;simp only[aE,reduceCtorEq,bV]at ht;split at ht
   .rename_i e;simp only[Key.m.injEq]at e;exact .inr e.symm
   .rw[CE]at ht;split at ht<;>simp at ht
 .intro R cq;rcases bg.1 cq with h|h
  .rcases bg.1 h with h|h
   .exact eC _ x R h
   .exact eC _ B R h
  .exact k9 _ ids R h
 .intro k D;simp only[dz,fL,bg]at D;rcases D with(h|h)|h
  .exact eH _<|eP A [x,B] k uf
  .exact eH _<|eP A [x,B] k xc
  .exact gx _<|kg A ids k h
 .have hd:∀ids:E G,fR (vC ids)=cV ids:=by
   intro ids;induction ids with
   |nil=>rfl
   |cons f r ih=>simp only[vC,fR,gM,cV]at ih⊢;rw[ih]
  intro k D;have:fR ((.s d,ae<|.v<|.c<|.X l)::(.m l,ae<|.b<|.vec bp T<|xs++ys)::vC ids)= .s d:: .m l::cV ids:=by rw[<-hd ids];rfl
  rw[<-this];exact D
def alT{f}{a}{g i}{d}{x B}{t1 t2 ty:eh}{pos}{D}{os}{t}{mem}{u}{v}{ks}{Q:St->Prop}(H:cw P tt=af)
 {b}{z E2:eh} {T}{xs k}(hx:St.ev ⟨t,mem,u,v⟩ x=ae (.c<|.X b)) (hl:L b mem=ae (.vec z T xs))
  (hy:St.ev ⟨t,mem,u,v⟩ B=ae (.c<|.S T k)) {ti l A}(N:L t1 tt=ae ti) (hk:ti.kind= .sl z) (p:L t2 tt=ae l) (W:l.kind= .sl E2) (pK:L z tt=ae A) (tY:A.size=T.n) (M5:Z A.zero=T.n)
  (hb:((Z xs+Z k)+(Z xs+Z k)/4+192)*A.bytes<=281474976710656) (nz:(Z xs+Z k)*T.n<=140737488355328)
  (cP:RG P n f a g (i+1) os ⟨(d,.c<|.X<|1000000*g+1000*i)::t,(1000000*g+1000*i,.vec z T<|xs++k)::ud b mem,u,v⟩ (g5 a ks (bH [x,B]++cV [b],[.s d,.m<|1000000*g+1000*i,.m b])) Q) (dn:dK d n=af:=by rfl):
  RG P n f a g i (⟨ae d,.call ⟨.builtin .append,#[x,B],#[t1,t2]⟩,ty,pos,D,none⟩::os) ⟨t,mem,u,v⟩ ks Q:=
 mY (λC=>aak H C J J (cQ dn) J (.inl ⟨b,J,hx,hl⟩) hy N hk p W pK tY M5 hb nz _) (mZ cP)
def alU{b}{a}{f i}{d}{x z}{t1 t2 ty:eh}{pos}{A}{os}{p}{mem}{t}{u}{ks}{Q:St->Prop}(B:cw P tt=af)
  {D E2:eh} {T}{g}(hx:St.ev ⟨p,mem,t,u⟩ x=ae (.c<|.V<|.slice none 0 0))
  (hy:St.ev ⟨p,mem,t,u⟩ z=ae (.c<|.S T g)) {ti k v}(H:L t1 tt=ae ti) (hk:ti.kind= .sl D) (l:L t2 tt=ae k) (N:k.kind= .sl E2) (W:L D tt=ae v) (tY:v.size=T.n) (M5:Z v.zero=T.n)
  (hb:(Z g+Z g/4+192)*v.bytes<=281474976710656) (nz:Z g*T.n<=140737488355328)
  (cP:RG P n b a f (i+1) os ⟨(d,.c<|.X<|1000000*f+1000*i)::p,(1000000*f+1000*i,.vec D T g)::mem,t,u⟩ (g5 a ks (bH [x,z],[.s d,.m<|1000000*f+1000*i])) Q) (dn:dK d n=af:=by rfl):
  RG P n b a f i (⟨ae d,.call ⟨.builtin .append,#[x,z],#[t1,t2]⟩,ty,pos,A,none⟩::os) ⟨p,mem,t,u⟩ ks Q:=
 mY (λC=>aak (xs:=[]) (ids:=[]) B C J J (cQ dn) J (.inr ⟨J,hx,J⟩) hy H hk l N W tY M5 vp (by simpa using nz) _) (mZ<|by simpa[cV,CC]using cP)
end
end Go.El
