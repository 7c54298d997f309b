/- The fast interpreter, part 9: it is sound. Own work; no condition. -/
import Derived.RangeFuncOwn
import Derived.RangeFuncLeaves
import Derived.Scope
import Derived.Test.YtceihkmakfdcnaaGreatD10
import Derived.Test.YtceihkmakfdcnaaGreatD4
import Derived.Test.YtceihkmakfdcnaaGreatD9
import Derived.Test.YtceihkmakfdcnaaGreatD5
import Derived.Test.YtceihkmakfdcnaaGreatD8
import Derived.Test.YtceihkmakfdcnaaGreatD6
import Derived.Test.YtceihkmakfdcnaaGreatD7
set_option linter.all false
set_option maxHeartbeats 16000000
set_option maxRecDepth 100000
open Array renaming replicate->s6
open Bool renaming true->ae,false->ah
open Classical renaming choose->Ci
open Go renaming Program->bW,Code->g7,FuncId->kd,World->cQ,Value->aV,Deferred->JA,Operand->eI,Oper->a4
open Go.Deferred renaming ofValue->Hs
open Go.El renaming ja->S,jd->r
open Go.Exit renaming inBlock->DP
open Go.Operand renaming tmp->adP
open Go.World renaming putObj_heap_other->OG,putObj_heap_same->apd,alloc_heap_new->apQ
open Go.stepG renaming exec->ao9
open List renaming length->Z,drop->aA,getD->E,range'->adK,take->c,range->bX
open Nat renaming ble->dP,strongRecOn->Gs,beq->g6,blt->dy
open Option renaming some->ad
open _root_ renaming Nat->Y,List->V,Option->ax,Int->G
namespace Go.El
open Go Go.Proofs Go.RowKit
def dL(a:Rc)(g:Ex)(t:Tr)(d:Ms)(k:Y)(f:V Y):Prop:=match g with
 | .dv=>a= .dv t d k f
 | .gP id=>a= .gP id t d k f
 | .ret=>a= .ret t d k f
def UM(P:bW)(dep n l:Y)(m:g7)(t:Tr)(f:Ms)(k:Y)(o:V Y)(p:Ex)(g:Tr)(a:Ms)(i:Y)(d:V Y):Prop:=
 Left l dep n t f k o g a i d/\HA P n m (bh dep n t f.flatten) k p (bh dep n g a.flatten) i
section
variable{P:bW}{tt:TT}{dM:kd->V AV->Ms->ax (V AV×AV)}
def UN{n}(a:n<=4096):n<=4^fb n:=by
 unfold fb;split
 .simpa using by omega
 .split
  .simpa using by omega
  .split
   .simpa using by omega
   .split
    .simpa using by omega
    .simpa using a
def CJ(dep:Y):∀(vs:V AV)(i:Y)(t:Tr)(a:Y),i+Z vs<=4^dep->a<4^dep->jA (de dep a) (nB dep vs i t)=match S a (dG i vs)with|some v=>ad v|none=>jA (de dep a) t
 |[],i,t,a,_,_=>rfl
 |v::vs,i,t,a,hle,g=>by
  have k:nB dep (v::vs) i t=nB dep vs (i+1) (jK (de dep i) v t):=rfl;simp only[ik]at hle;rw[k,CJ dep vs (i+1) _ a O g];have f:∀(l:V AV)(d:Y),i<d->S i (dG d l)=none:=by
   intro l;induction l with
   |nil=>intro _ _;rfl
   |cons y l m=>intro d n;simp only[dG,S];rw[w O];exact m (d+1) O
  simp only[dG,S];by_cases h:i=a
  .subst h;rw[b J,f vs (i+1) O];simp only[Jf]
  .rw[w h];rw[Fl _ _ _ _ Fp (λo=>h<|Cw dep O g o)]
def Al:∀(vs:V AV)(i f:Y)(v:AV),S f (dG i vs)=ad v->f<i+Z vs/\∀g∈v.ak,g∈cR vs
 |[],i,f,v,d=>by simp[dG,S]at d
 |x::vs,i,f,v,d=>by
  simp only[dG,S]at d;split at d
  .rename_i k;cases d;subst k;exact⟨az,λg a=>by simp[cR,a]⟩
  .let ⟨l,h2⟩:=Al vs (i+1) f v d;exact⟨b8,λg a=>by simp[cR,h2 g a]⟩
def ads{dep n}{t}{d}{x}{v}(a:Jr tt dep n t d x=ad v):oX tt (bh dep n t d.flatten) x=ad v:=by
 cases x with
 |tmp j=>
  simp only[Jr]at a
  split at a
  .rename_i f;simp only[oX,bh,tx,b<|Ai f];exact a
  .cases a
 |cell j ty=>
  simp only[Jr]at a
  split at a
  .rename_i f;have e:S j (bh dep n t d.flatten).sl=jA (de dep j) t:=by show S j (eY dep n t)=_;rw[tx,b<|Ai f]
   simp only[oX,e];split at a
   .rename_i g k l;simp only[l];have m:S g (bh dep n t d.flatten).mem=bD g d:=jB g d;simp only[m];split at a
    .rename_i E p s sz u o i;simp only[o,i];exact a
    .cases a
   .cases a
  .cases a
def adt{dep n:Y}{t:Tr}{f:Ms}:∀{xs:V ResultVar}{d:V (Bool×V C)},Ol tt dep n t f xs=ad d->oY tt (bh dep n t f.flatten) xs=ad d
 |[],d,a=>a
 |x::xs,d,a=>by
  simp only[Ol]at a;split at a
  .rename_i v g;split at a
   .rename_i s l i k;cases a;simp only[oY,ads g,i,adt k]
   .cases a
  .cases a
def adu{dep n}{t}{f}{xs}{v}(a:FI tt dep n t f xs=ad v):lJ tt (bh dep n t f.flatten) xs=ad v:=by
 unfold FI at a;unfold lJ;split at a
 .exact ads a
 .rename_i xs d;split at a
  .rename_i i g;cases a;have:=adt g;split
   .rename_i x;exact absurd J<|d x
   .rw[this];rfl
  .cases a
def OB(own:Mem):∀(f:Y)(d:V Y)(a:Mem),(∀g k,S g a=ad k->S g own=ad k)->∀g k,S g (x9 f own d a)=ad k->S g own=ad k
 |0,_,a,m,g,k,l=>m g k (by simpa[x9]using l)
 |f+1,[],a,m,g,k,l=>m g k (by simpa[x9]using l)
 |f+1,i::d,a,m,g,k,l=>by
  simp only[x9]at l;split at l
  .exact OB own f d a m g k l
  .split at l
   .rename_i t o;refine OB own f _ _ ?_ g k l;intro p x n;simp only[S]at n;split at n
    .rename_i s;cases n;subst s;rw[<-x4];exact o
    .exact m p x n
   .exact OB own f d a m g k l
def Jw{k:Y}{i:Ms}:∀{l:V Y},CF k i l=ae->∀f∈l,k<=f\/∃g,bD f i=ad g
 |[],_,f,d=>by cases d
 |x::o,d,f,a=>by
  simp only[CF]at d;split at d
  .rename_i m;rcases b9.1 a with rfl|a
   .exact .inl<|c8 m
   .exact Jw d f a
  .split at d
   .rename_i g n;rcases b9.1 a with rfl|a
    .exact .inr ⟨g,n⟩
    .exact Jw d f a
   .cases d
def adv{k:Y}{m:Ms}:∀{l:Mem},Om k m l=ae->∀f d,S f l=ad d->k<=f/\∀n∈d.ak,k<=n\/∃d,bD n m=ad d
 |[],_,f,d,a=>by simp[S]at a
 | (i,x)::t,a,f,d,g=>by
  simp only[Om]at a;split at a
  .rename_i o;split at a
   .rename_i p;simp only[S]at g;split at g
    .rename_i s;cases g;subst s;exact⟨c8 o,Jw p⟩
    .exact adv a f d g
   .cases a
  .cases a
def OC{k:Y}{o i:Ms}:∀{l:V Y},FJ k o i l=ae->∀m∈l,∀g,bD m i=ad g->∀p∈g.ak,k<=p\/∃g,bD p o=ad g
 |[],_,m,d=>by cases d
 |x::t,d,m,a=>by
  simp only[FJ]at d;split at d
  .rename_i u f;split at d
   .rename_i s;rcases b9.1 a with rfl|a
    .intro g n;rw[f]at n;cases n;exact Jw s
    .exact OC d m a
   .cases d
  .rename_i f;rcases b9.1 a with rfl|a
   .intro g n;rw[f]at n;cases n
   .exact OC d m a
def adw{k:Y}:∀{l:Mem},Uv k l=ae->∀a d,S a l=ad d->k<=a
 |[],_,a,d,g=>by simp[S]at g
 | (i,x)::o,g,a,d,m=>by
  have f:Bool.rec (motive:=λ_=>Bool) ah (Uv k o) (dP k i)=ae:=g;cases n:dP k i with
  |false=>rw[n]at f;cases f
  |true=>
   rw[n]at f
   simp only[S]at m
   split at m
   .rename_i e;subst e;exact c8 n
   .exact adw f a d m
def adx(a:Mem)(rest:Ms)(d:Y):bD d (Ag a rest)=match S d a with|some f=>ad f|none=>bD d rest:=by
 rw[<-jB];cases rest with
 |nil=>simp only[Ag,KZ,List.flatten_nil,iD];cases S d a<;>rfl
 |cons m r=>
  rw[show(Ag a<|m::r).flatten=a++(m++r.flatten)by simp[Ag],Ee,(az:m++r.flatten=(m::r).flatten),jB]
  cases S d a<;>rfl
def OD(a:Y):∀(i:V Y)(d:Ms),bD a (wF i d)=if a∈i then(bD a d).map FG else bD a d
 |[],d=>by simp[wF]
 |id::m,d=>by
  have k:=OD a m;unfold wF;split
  .rename_i E sz l f;rw[k,Fv,f];by_cases h2:id=a
   .subst h2;simp[f,FG]
   .have n:¬a=id:=λe=>h2 e.symm
    simp[h2,n]
  .rename_i g;rw[k];by_cases h2:a=id
   .subst h2;have e:(bD a d).map FG=bD a d:=by
     cases f:bD a d with
     |none=>rfl
     |some b=>
      cases b with
      |box E sz l=>exact absurd f<|g E sz l
      |vec _ _ _=>rfl
      |hY _ _ _=>rfl
      |fz _ _=>rfl
      |mp _ _ _=>rfl
      |it _ _ _=>rfl
    simp[e]
   .simp[h2]
def UO:∀(f:V Y)(a:Ms),mn a (wF f a)
 |[],a=>mn.refl a
 |id::d,a=>by
  unfold wF;split
  .exact(Uw id _ a).trans<|UO d _
  .exact UO d a
def UP(di:cq P tt=ae)(Am:∀f vs l mZ bf,dM f vs l=ad (mZ,bf)->r P f mZ bf){body:ya}
  (aoL:∀dep n ke dQ t l k wl dN t' A k' lu,n<=4^dep->ke<=k->dT dep n t k->fv l k->dL (body dep n ke dQ t l k wl) dN t' A k' lu->UM P dep n ke dQ t l k wl dN t' A k' lu):wG P (tA P tt dM body):=by
 constructor
 intro f vs l k bf A k' wl h jL vQ
 unfold tA at h
 split at h
 .rename_i mZ r0 hc;dsimp only at h;generalize Jt l 200 (cR vs) []=D at h;split at h
  .rename_i p;simp only[Cr.ok.injEq]at h;obtain⟨rfl,rfl,rfl,rfl⟩:=h;simp only[cz]at p;have hm:cR mZ=[]:=List.isEmpty_iff.1 p.1.2;have hf:=Am _ _ _ _ _ hc;have hr:r0.ak=[]:=hf.iL;have o:∀a d,bD a (wF D l)=ad d->∃B,bD a l=ad B/\d.ak=B.ak/\(a∉D->d=B):=λa d hb=>by
    rw[OD]at hb;split at hb
    .rename_i hd;obtain⟨B,h0,rfl⟩:=cG.1 hb;exact⟨B,h0,ac3 B,λh=>absurd hd h⟩
    .exact⟨d,hb,J,λ_=>rfl⟩
   refine⟨aod hf hm D (λa=>by rw[jB,jB,OD]) (λa d hl=>?_) p.1.1 k,λa g=>(by rw[hr]at g;cases g),λa d hb=>?_,λa _ lD=>(by rw[OD,w lD]),λa d hb=>(by let ⟨B,h0,_⟩:=o a d hb;exact .inr ⟨B,h0⟩),λa d hb=>(by let ⟨B,h0,nk,_⟩:=o a d hb;rw[nk];exact jL a B h0),λa g=>(by rw[hr]at g;cases g),UO D l⟩;rotate_left
   .by_cases hd:a∈D
    .exact .inr<|OC p.2 a hd d hb
    .let ⟨B,h0,_,he⟩:=o a d hb;rw[he hd];exact .inl h0
   unfold lkS at hl;split at hl
   .rename_i ha;rw[jB];refine⟨?_,hl⟩;let ⟨x,T,he⟩:=List.any_eq_true.1 ha;rw[lL he];exact T
   .cases hl
  .cases h
 .split at h
  .rename_i L hf;split at h
   .rename_i dQ hb;split at h
    .rename_i p;simp only[cz]at p;let ⟨⟨tY,U⟩,kM⟩:=p;have U:Z vs<=L.ntmps:=c8 U;have hn:L.ntmps<=4^fb L.ntmps:=UN<|c8 kM;have An:∀a,bD a ([]::l)=bD a l:=λ_=>rfl
     have pR:dT (fb L.ntmps) L.ntmps (nB (fb L.ntmps) vs 0 .e) k:=by
      intro j v hj hv a g;rw[CJ _ vs 0 .e j O O,Aa]at hv;split at hv
      .rename_i u hu;cases hv;exact vQ a<|(Al vs 0 j v hu).2 a g
      .cases hv
     have qh:(bh (fb L.ntmps) L.ntmps (nB (fb L.ntmps) vs 0 .e) ([]::l:Ms).flatten).kn=St.kn ⟨dG 0 vs,l.flatten,0,[]⟩:=by
      rw[Fo];funext key;cases key with
      |m a=>simp[St.kn]
      |s j=>
       simp only[St.kn]
       by_cases hj:j<L.ntmps
       .rw[b hj,CJ _ vs 0 .e j O O,Aa];cases S j (dG 0 vs)<;>rfl
       .rw[w hj];cases hl:S j (dG 0 vs)with
        |none=>rfl
        |some v=>have:=(Al vs 0 j v hl).1;omega
     have fin:∀(dN:Ex)(I:Tr)(M:Ms)(G:Y)(H:V Y),(dN= .dv\/dN= .ret)->dL (body (fb L.ntmps) L.ntmps k dQ (nB (fb L.ntmps) vs 0 .e) ([]::l) k []) dN I M G H->leave tt L (fb L.ntmps) l k I M G H= .ok bf A k' wl->
       CX P f vs l.flatten k bf A.flatten k'/\(∀a∈bf.ak,k<=a\/∃d,bD a l=ad d)/\(∀a d,bD a A=ad d->bD a l=ad d\/∀j∈d.ak,k<=j\/∃d,bD j l=ad d)/\
       (∀a,a<k->a∉wl->bD a A=bD a l)/\(∀a d,bD a A=ad d->k<=a\/∃B,bD a l=ad B)/\fv A k'/\(∀a∈bf.ak,a<k')/\mn l A:=by
      intro dN I M G H he hrc y
      let ⟨hL,hG⟩:=aoL _ _ _ _ _ _ _ _ _ _ _ _ _ hn (aO k) pR (show fv ([]::l) k from λa d hb=>jL a d hb) hrc
      unfold leave at y
      split at y
      .rename_i r1 vT;split at y
       .rename_i own rest;dsimp only at y;generalize hsv:x9 1000 own (r1.ak++Js rest H) []=sv at y;split at y
        .rename_i W;simp only[Cr.ok.injEq]at y;obtain⟨rfl,rfl,rfl,rfl⟩:=y;simp only[cz]at W;let ⟨⟨⟨Jx,Cv⟩,hc3⟩,hc4⟩:=W;have K:=adu vT;have Jy:=adw hc4;have X:=OB own 1000 (r1.ak++Js rest H) [] (λa d h=>by simp[S]at h);rw[hsv]at X;have Q:=adv Cv;have q:∀a,bD a (own::rest)=match S a own with|some d=>ad d|none=>bD a rest:=by
          intro a;have e1:bD a (own::rest)=match mX a own with|some d=>ad d|none=>bD a rest:=rfl
          rw[e1,x4]
         have z:∀a,a<k->bD a (own::rest)=bD a rest:=by
          intro a g;rw[q];cases ho:S a own with
          |none=>rfl
          |some d=>have:=Jy a d ho;omega
         have Hd:=hL.tl;have F:∀i j d,bD j (aA i rest)=ad d->∃B,bD j (aA i l)=ad B:=by intro i j d hb;have:=Hd (i+1) j d O tW;simpa using this
         have GO:∀j d,bD j rest=ad d->j<k/\∃B,bD j l=ad B:=by
          intro j d hb;let ⟨B,N⟩:=F 0 j d tW;have N:bD j l=ad B:=by simpa using N
          exact⟨(jL j B N).1,B,N⟩
         have o:∀a d,bD a (Ag sv rest)=ad d->bD a (own::rest)=ad d/\((k<=a/\S a sv=ad d)\/(a<k/\bD a rest=ad d)):=by
          intro a d hb;rw[adx]at hb;cases hs:S a sv with
          |some x=>
           rw[hs]at hb
           cases hb
           exact⟨by rw[q,X a d hs],.inl ⟨(Q a d hs).1,J⟩⟩
          |none=>
           rw[hs]at hb
           have hZ:=(GO a d hb).1
           exact⟨by rw[z a hZ];exact hb,.inr ⟨hZ,hb⟩⟩
         refine⟨?_,Jw Jx,?_,?_,?_,?_,?_,?_⟩
         .refine aj8 di hf hb tY U he ?_ K (λa d hb=>?_)
          .rw[HA]at hG⊢;rw[qh]at hG;exact hG
          .show S a (own::rest:Ms).flatten=ad d;rw[jB];exact(o a d Ox).1
         .intro a d hb;rcases(o a d hb).2 with⟨R,h2⟩|⟨R,h2⟩
          .exact .inr (Q a d h2).2
          .by_cases hw:a∈H
           .exact .inr<|OC hc3 a hw d h2
           .have:=(hL.log a R hw).2;rw[z a R,h2,An]at this;exact .inl this.symm
         .intro a g hw;have R:=(hL.log a g hw).2;rw[z a g,An]at R;rw[adx];have hns:S a sv=none:=by
           cases hs:S a sv with
           |none=>rfl
           |some x=>have:=(Q a x hs).1;omega
          rw[hns];exact R
         .intro a d hb;rcases(o a d hb).2 with⟨R,h2⟩|⟨R,h2⟩
          .exact .inl R
          .exact .inr (GO a d h2).2
         .intro a d hb;exact hL.fv a d (o a d hb).1
         .intro a g;have aoR:∀a∈r1.ak,a<G:=by
           have hwk:∀(x:ResultVar)(v:AV),oX tt (bh (fb L.ntmps) L.ntmps I (own::rest:Ms).flatten) x=ad v->∀a∈v.ak,a<G:=by
            intro x v T a g;cases x with
            |tmp j=>
             simp only[oX,bh,tx]at T
             split at T
             .rename_i hj;exact hL.dT j v hj T a g
             .cases T
            |cell j ty=>
             simp only[oX]at T
             split at T
             .rename_i pid off hp;split at T
              .rename_i E bz cs sz ag HD KH;have h3:bD pid (own::rest)=ad (.box E bz cs):=by rw[<-jB];exact HD
               exact(hL.fv pid _ h3).2 a<|yy T a g
              .cases T
             .cases T
           have xw:∀(xs:V ResultVar)(ss:V (Bool×V C)),oY tt (bh (fb L.ntmps) L.ntmps I (own::rest:Ms).flatten) xs=ad ss->∀a∈eW ss,a<G:=by
            intro xs;induction xs with
            |nil=>intro ss h a g;simp only[oY,ar]at h;subst h;simp[eW]at g
            |cons x xs ih=>
             intro ss h a g
             simp only[oY]at h
             split at h
             .rename_i v hv;split at h
              .rename_i s bf hs hr;cases h;simp only[eW,bg]at g;rcases g with g|g
               .rw[Lq hs]at g;exact hwk x v hv a g
               .exact ih bf hr a g
              .cases h
             .cases h
           intro a g;unfold lJ at K;split at K
           .exact hwk _ _ K a g
           .simp only[cG]at K;obtain⟨ss,hss,rfl⟩:=K;exact xw _ ss hss a g
          exact aoR a g
         .intro i j d hi hb;have:bD j (aA i rest)=ad d:=by
           obtain⟨i,rfl⟩:∃i',i=i'+1:=⟨i-1,O⟩;cases rest with
           |nil=>simpa[Ag]using hb
           |cons m bf=>simpa[Ag]using hb
          exact F i j d this
        .cases y
       .cases y
      .cases y
     split at h
     .rename_i I M G H FN;exact fin .dv I M G H (.inl J) FN h
     .rename_i I M G H FN;exact fin .ret I M G H (.inr J) FN h
     .cases h
    .cases h
   .cases h
  .cases h
end
section
variable{P:bW}{tt:TT}{dM:kd->V AV->Ms->ax (V AV×AV)}
def adz{T:Fence}{n}{o}{α:Type}(L:α->Act->cQ->Prop)(M:α->Y){Q:Exit->Act->cQ->Prop} x{a}{i}(y:L x a i)
  (round:∀x a i,L x a i->o.wpIn T n P (Exit.then (λu v=>∃A,L A u v/\M A<M x) Q) a i):(Code.loop o).wpIn T n P Q a i:=by
 intro b k K U W X
 have h:∀j x a i,M x=j->L x a i->
   ∃e u v,Q e u v/\ArrivesIn (Machine.fenced P T) P (lone (b.atR a<|.code o:: .inLoop o::k) K i) b k K e u v:=by
  intro j
  induction j using Gs with
  |_ j r=>
   intro x a i z D
   let ⟨e,f,g,p,d⟩:=round x a i D b (.inLoop o::k) K U W X
   cases e with
   |normal=>
    let ⟨A,s,q⟩:=p
    let ⟨B,C,H,t,m⟩:=r (M A) (z▸q) A f g J s
    exact⟨B,C,H,t,.of_steps (StepsIn.trans d<|.one (fenced_calm W X J) stepR_inLoop) m⟩
   |exit id=>exact⟨_,f,g,p,.pass (x:= .inLoop o) J (λ_ _=> .inl az) d⟩
   |goto l=>exact⟨_,f,g,p,.pass (x:= .inLoop o) J (λ_ _=> .inl az) d⟩
   |ret=>exact⟨_,f,g,p,.pass (x:= .inLoop o) J (λ_ _=> .inl az) d⟩
   |panic ch=>exact⟨_,f,g,p,.pass (x:= .inLoop o) J (λ_ _=> .inl az) d⟩
   |outgrown=>exact⟨_,f,g,p,.pass (x:= .inLoop o) J (λ_ _=> .inl az) d⟩
 let ⟨e,u,v,p,d⟩:=h _ x a i J y
 exact⟨e,u,v,p,.of_steps (.one (fenced_calm W X J) stepR_loop) d⟩
def adA(kN:P.follows .mixedOrders=ae)(di:cq P tt=ae){qA:mY}(o4:wG P qA){dep n ke}(hn:n<=4^dep){d}{L}{gs}{ps}(p:Oj dep n d.toList L=ad (gs,ps)){t}{ms}{k}{wl}(qy:ke<=k)(pR:dT dep n t k)(jL:fv ms k){t'}{wH}{k'}{lu}{fs}
  (dj:x7 qA tt n ke gs t ms k wl []= .ok t' wH k' lu fs) (hp:∀l,ps=ad l->Fz fs.reverse l=ae) id:UM P dep n ke (.region id d L) t ms k wl .dv t' wH k' lu:=by
 unfold Oj at p
 split at p
 .rename_i gs' RZ;have hgg:gs'=gs:=by
   split at p
   .cases p;rfl
   .split at p
    .cases p;rfl
    .cases p
  subst hgg;let ⟨ds,cl,kk,b,hS,⟨Jx,Cv⟩,Jv,UI,K,hL⟩:=ado di o4 hn d.toList 0 dj RZ az qy pR jL;refine⟨hL,hL.le,λF hF lD g W a c=>?_⟩;subst hF;refine aoJ kN hS ?_ (λg W a h'=>⟨J,g,h'⟩) c lD.region;intro hd;subst hd;simp only at p;split at p
  .rename_i e;cases p;have ho:=Xq e;refine⟨ho.1,?_⟩;have Q:=hp _ J;rw[Jv]at Q;simp only[iD,List.reverse_reverse]at Q;intro i j P9 hj u M;have hds:Z ds=d.size:=by simpa using hS.len
   have avL:Z b=d.size:=by simpa using UI
   have q:∀x,x<d.size->∃o a f,d.toList[x]? =ad o/\kk[x]? =ad a/\b[x]? =ad f/\(∀u∈dI (E ds x ([],[])).1,u∈a.1)/\(∀u∈fW (E ds x ([],[])).2,u∈a.2):=by intro x hx;have h1:x<Z kk:=O;have h2:x<Z ds:=O;have h3:x<Z d.toList:=D8;have h4:x<Z b:=O;refine⟨_,_,_,cO h3,cO h1,cO h4,?_⟩;rw[A5 ds _ x h2];exact Cv x h2 h1
   let ⟨oi,ai,r,T,hai,w,z,A⟩:=q i O;let ⟨oj,aj,D,U,haj,G,I,B⟩:=q j hj;let ⟨⟨N,C⟩,oR⟩:=K i ai oi r hai T w;let ⟨⟨R,H⟩,htj⟩:=K j aj oj D haj U G;have X:rz (x8 d.toList oi) (x8 d.toList oj)=ae->mC d i j:=by
    intro sK;refine ho.2 i j _ _ P9 hj ?_ ?_ sK
    .rw[jh,T];rfl
    .rw[jh,U];rfl
   have S:∀x,((nC r x/\nC D x)\/(nC r x/\se D x)\/(se r x/\nC D x))->mC d i j:=by
    intro x hx;let ⟨EW,hms⟩:=QA (ops:=d) d.toList [] az az (λk hk=>by simp at hk);have V:j<Z (qo d.toList []):=O;by_cases hb:(qo d.toList [])[j].testBit i=ae
    .exact hms j V i hb
    .exfalso;have Y:n9 oi=ae:=by
      cases c:n9 oi with
      |true=>rfl
      |false=>rw[oR c]at hx;simp[nC,se]at hx
     have aoZ:n9 oj=ae:=by
      cases c:n9 oj with
      |true=>rfl
      |false=>rw[htj c]at hx;simp[nC,se]at hx
     have LL:=adr (opsL:=d.toList) T Y (ml:=qo d.toList []) (os:=d.toList) (j0:=0) (a:=j) (m:=(qo d.toList [])[j]) (cO V) U aoZ O tW;have hcf:=adp Q i (0+j) LL;have e1:b.getD i .n=r:=by rw[aK,w];rfl
     have e2:b.getD (0+j) .n=D:=by rw[ff,aK,G];rfl
     rw[e1,e2]at hcf;let ⟨n1,n2,n3⟩:=aoK hcf x;rcases hx with hx|hx|hx
     .exact n1 hx
     .exact n2 hx
     .exact n3 hx
   cases u with
   |s x=>
    refine X ?_
    rcases M with⟨v,y⟩|⟨v,y⟩|⟨v,y⟩
    .have a1:=C _<|A _ v;have a2:=H _<|B _ y;simp only[rz,DN a1 a2,KR]
    .have a1:=C _<|A _ v;have a2:=R _<|I _ y;simp only[rz,DN a1 a2,KR,KS]
    .have a1:=N _<|z _ v;have a2:=H _<|B _ y;simp only[rz,DN a1 a2,KS]
   |m x=>
    refine S x ?_
    rcases M with⟨v,y⟩|⟨v,y⟩|⟨v,y⟩
    .exact .inl ⟨C _<|A _ v,H _<|B _ y⟩
    .exact .inr<|.inl ⟨C _<|A _ v,R _<|I _ y⟩
    .exact .inr<|.inr ⟨N _<|z _ v,H _<|B _ y⟩
  .cases p
 .cases p
def nD{a:Ex}{t}{d}{k}{f}(g:dL .no a t d k f):False:=by cases a<;>simp[dL]at g
def dL.inj{i:Rc}{e g:Ex}{t l}{m a}{k n}{o d}(p:dL i e t m k o)(f:dL i g l a n d):e=g/\t=l/\m=a/\k=n/\o=d:=by cases e<;>cases g<;>simp only[dL]at p f<;>rw[p]at f<;>simp at f<;>simp[f]
def dL.get{r:Rc}:r= .no\/∃f t a k d,dL r f t a k d:=by
 cases r with
 |no=>exact .inl J
 |dv t a k d=>exact .inr ⟨.dv,t,a,k,d,J⟩
 |gP id t a k d=>exact .inr ⟨.gP id,t,a,k,d,J⟩
 |ret t a k d=>exact .inr ⟨.ret,t,a,k,d,J⟩
def FO(kN:P.follows .mixedOrders=ae)(di:cq P tt=ae)(Am:∀f vs M mZ bf,dM f vs M=ad (mZ,bf)->r P f mZ bf):
  ∀(f dep n Q:Y)(dQ:g7)(t:Tr)(M:Ms)(k:Y)(wl:V Y)(e:Ex)(t':Tr)(H:Ms)(k':Y)(L:V Y),n<=4^dep->Q<=k->dT dep n t k->fv M k->dL (iS P tt dM f dep n Q dQ t M k wl) e t' H k' L->UM P dep n Q dQ t M k wl e t' H k' L:=by
 intro f
 induction f using Gs with
 |_ f0 UQ=>
 cases f0 with
 |zero=>intro dep n Q dQ t M k wl e t' H k' L _ _ _ _ w;exact(nD w).elim
 |succ f=>
  have ih:=UQ f O
  intro dep n Q dQ t M k wl e t' H k' L hn j T U w
  cases dQ with
  |skip=>
   have R:dL (.dv t M k wl) .dv t M k wl:=rfl
   obtain⟨rfl,rfl,rfl,rfl,rfl⟩:=dL.inj R w
   exact⟨Left.refl T U,aO _,λF X i g W a A=>wpIn_skip ⟨J,g,A⟩⟩
  |exit id=>
   have R:dL (.gP id t M k wl) (.gP id) t M k wl:=rfl
   obtain⟨rfl,rfl,rfl,rfl,rfl⟩:=dL.inj R w
   exact⟨Left.refl T U,aO _,λF X i g W a A=>wpIn_exit ⟨J,g,A⟩⟩
  |ret=>
   have R:dL (.ret t M k wl) .ret t M k wl:=rfl
   obtain⟨rfl,rfl,rfl,rfl,rfl⟩:=dL.inj R w
   exact⟨Left.refl T U,aO _,λF X i g W a A=>wpIn_ret ⟨J,g,A⟩⟩
  |seq x y=>
   have d:dL (match iS P tt dM f dep n Q x t M k wl with| .dv z u D v=>iS P tt dM f dep n Q y z u D v|bf=>bf) e t' H k' L:=w
   rcases dL.get (r:=iS P tt dM f dep n Q x t M k wl)with s|⟨e1,z,u,D,v,s⟩
   .rw[s]at d;exact(nD d).elim
   .have o:=ih _ _ _ _ _ _ _ _ _ _ _ _ _ hn j T U s;cases e1 with
    |dv=>
     simp only[dL]at s
     rw[s]at d
     have g2:=ih _ _ _ _ _ _ _ _ _ _ _ _ _ hn (bm j o.1.le) o.1.dT o.1.fv d
     refine⟨o.1.trans g2.1,bm o.2.1 g2.2.1,λF X i g W a A=>wpIn_seq<|wpIn_mono (o.2.2 F X i.seq.1 g W a A) ?_⟩
     rintro e' a' W' ⟨rfl,E,G⟩
     exact g2.2.2 F X i.seq.2 E W' a' G
    |gP id=>
     simp only[dL]at s
     rw[s]at d
     obtain⟨rfl,rfl,rfl,rfl,rfl⟩:=dL.inj (e:= .gP id) J d
     refine⟨o.1,o.2.1,λF X i g W a A=>wpIn_seq<|wpIn_mono (o.2.2 F X i.seq.1 g W a A) ?_⟩
     rintro e' a' W' ⟨rfl,E,G⟩
     exact⟨J,E,G⟩
    |ret=>
     simp only[dL]at s
     rw[s]at d
     obtain⟨rfl,rfl,rfl,rfl,rfl⟩:=dL.inj (e:= .ret) J d
     refine⟨o.1,o.2.1,λF X i g W a A=>wpIn_seq<|wpIn_mono (o.2.2 F X i.seq.1 g W a A) ?_⟩
     rintro e' a' W' ⟨rfl,E,G⟩
     exact⟨J,E,G⟩
  |cond I x y=>
   have d:dL (match iR dep n I with
    |some p=>(match jZ t p with
     |some (.c<|.B b)=>(match b with
      |true=>iS P tt dM f dep n Q x t M k wl
      |false=>iS P tt dM f dep n Q y t M k wl)
     |_=> .no)
    |none=> .no) e t' H k' L:=w
   split at d
   .rename_i p hp;split at d
    .rename_i b hb;have Jz:=ls (m:=M.flatten) hp hb;split at d
     .have o:=ih _ _ _ _ _ _ _ _ _ _ _ _ _ hn j T U d;refine⟨o.1,o.2.1,λF X i g W a A=>?_⟩;have s:bu g (.c<|.B ae) (a.eval I):=dA A _ I _ Jz<|eD _ I;exact wpIn_cond_split s (λ_=>o.2.2 F X i.cond.1 g W a A)<|λe=>wE
     .have o:=ih _ _ _ _ _ _ _ _ _ _ _ _ _ hn j T U d;refine⟨o.1,o.2.1,λF X i g W a A=>?_⟩;have s:bu g (.c<|.B ah) (a.eval I):=dA A _ I _ Jz<|eD _ I;exact wpIn_cond_split s (λe=>wE)<|λ_=>o.2.2 F X i.cond.2 g W a A
    .exact(nD d).elim
   .exact(nD d).elim
  |block id x=>
   have d:dL (match iS P tt dM f dep n Q x t M k wl with
    | .gP S z u D v=>(match g6 S id with|true=> .dv z u D v|false=> .gP S z u D v)
    |bf=>bf) e t' H k' L:=w
   rcases dL.get (r:=iS P tt dM f dep n Q x t M k wl)with s|⟨e1,z,u,D,v,s⟩
   .rw[s]at d;exact(nD d).elim
   .have o:=ih _ _ _ _ _ _ _ _ _ _ _ _ _ hn j T U s;cases e1 with
    |dv=>
     simp only[dL]at s
     rw[s]at d
     obtain⟨rfl,rfl,rfl,rfl,rfl⟩:=dL.inj (e:= .dv) J d
     refine⟨o.1,o.2.1,λF X i g W a A=>wpIn_block<|wpIn_mono (o.2.2 F X i.block g W a A) ?_⟩
     rintro e' a' W' ⟨rfl,E,G⟩
     exact⟨J,E,G⟩
    |gP S=>
     simp only[dL]at s
     rw[s]at d
     dsimp only at d
     split at d
     .rename_i Z;have Z:S=id:=lL Z;subst Z;obtain⟨rfl,rfl,rfl,rfl,rfl⟩:=dL.inj (e:= .dv) J d;refine⟨o.1,o.2.1,λF X i g W a A=>wpIn_block<|wpIn_mono (o.2.2 F X i.block g W a A) ?_⟩;rintro e' a' W' ⟨rfl,E,G⟩;simp only[Ex.Hz,DP,cj];exact⟨h,E,G⟩
     .rename_i Z;have gM:S≠id:=by intro e';subst e';rw[Jh]at Z;cases Z
      obtain⟨rfl,rfl,rfl,rfl,rfl⟩:=dL.inj (e:= .gP S) J d;refine⟨o.1,o.2.1,λF X i g W a A=>wpIn_block<|wpIn_mono (o.2.2 F X i.block g W a A) ?_⟩;rintro e' a' W' ⟨rfl,E,G⟩;simp only[Ex.Hz,DP,gM,bN];exact⟨h,E,G⟩
    |ret=>
     simp only[dL]at s
     rw[s]at d
     obtain⟨rfl,rfl,rfl,rfl,rfl⟩:=dL.inj (e:= .ret) J d
     refine⟨o.1,o.2.1,λF X i g W a A=>wpIn_block<|wpIn_mono (o.2.2 F X i.block g W a A) ?_⟩
     rintro e' a' W' ⟨rfl,E,G⟩
     exact⟨J,E,G⟩
  |loop x=>
   have step:∀q t0 C N K,dL (iS P tt dM (q+1) dep n Q (.loop x) t0 C N K) e t' H k' L->dL (match iS P tt dM q dep n Q x t0 C N K with| .dv z u D v=>iS P tt dM q dep n Q (.loop x) z u D v|bf=>bf) e t' H k' L:=λ_ _ _ _ _ w=>w
   have ao0:∀q,q<=f+1->∀t0 C N K,Q<=N->dT dep n t0 N->fv C N->dL (iS P tt dM q dep n Q (.loop x) t0 C N K) e t' H k' L->Left Q dep n t0 C N K t' H k' L:=by
    intro q;induction q with
    |zero=>intro _ t0 C N K _ _ _ R;exact(nD R).elim
    |succ q ihf=>
     intro hf t0 C N K sT OE OF R
     have d:=step q t0 C N K R
     rcases dL.get (r:=iS P tt dM q dep n Q x t0 C N K)with s|⟨e1,z,u,D,v,s⟩
     .rw[s]at d;exact(nD d).elim
     .have o:=UQ q O _ _ _ _ _ _ _ _ _ _ _ _ _ hn sT OE OF s;cases e1 with
      |dv=>
       simp only[dL]at s
       rw[s]at d
       exact o.1.trans<|ihf O z u D v (bm sT o.1.le) o.1.dT o.1.fv d
      |gP id=>
       simp only[dL]at s
       rw[s]at d
       obtain⟨rfl,rfl,rfl,rfl,rfl⟩:=dL.inj (e:= .gP id) J d
       exact o.1
      |ret=>
       simp only[dL]at s
       rw[s]at d
       obtain⟨rfl,rfl,rfl,rfl,rfl⟩:=dL.inj (e:= .ret) J d
       exact o.1
   have hL:=ao0 (f+1) (aO _) t M k wl j T U w
   refine⟨hL,hL.le,λF X i g W a A=>?_⟩
   refine adz (λ(y:Y×(Tr×Ms)×Y×V Y) a W=>y.1<=f+1/\Q<=y.2.2.1/\dT dep n y.2.1.1 y.2.2.1/\fv y.2.1.2 y.2.2.1/\dL (iS P tt dM y.1 dep n Q (.loop x) y.2.1.1 y.2.1.2 y.2.2.1 y.2.2.2) e t' H k' L/\∃g,bx F (·<y.2.2.1) (bh dep n y.2.1.1 y.2.1.2.flatten).kn g W a) (λy=>y.1) (f+1,(t,M),k,wl) ⟨aO _,j,T,U,w,g,A⟩ ?_
   rintro⟨q,⟨t0,C⟩,N,K⟩ a W ⟨hf,sT,OE,OF,R,g,A⟩
   simp only at hf sT OE OF R A⊢
   cases q with
   |zero=>exact(nD R).elim
   |succ q=>
    have d:=step q t0 C N K R
    rcases dL.get (r:=iS P tt dM q dep n Q x t0 C N K)with s|⟨e1,z,u,D,v,s⟩
    .rw[s]at d;exact(nD d).elim
    .have o:=UQ q O _ _ _ _ _ _ _ _ _ _ _ _ _ hn sT OE OF s;refine wpIn_mono (o.2.2 F X i.loop g W a A) ?_;rintro e' a' W' ⟨rfl,E,G⟩;cases e1 with
     |dv=>
      simp only[dL]at s
      rw[s]at d
      exact⟨(q,(z,u),D,v),⟨by simp only;omega,bm sT o.1.le,o.1.dT,o.1.fv,d,E,G⟩,az⟩
     |gP id=>
      simp only[dL]at s
      rw[s]at d
      obtain⟨rfl,rfl,rfl,rfl,rfl⟩:=dL.inj (e:= .gP id) J d
      exact⟨J,E,G⟩
     |ret=>
      simp only[dL]at s
      rw[s]at d
      obtain⟨rfl,rfl,rfl,rfl,rfl⟩:=dL.inj (e:= .ret) J d
      exact⟨J,E,G⟩
  |region id ops draw=>
   have o4:wG P (tA P tt dM<|iS P tt dM f):=UP di Am ih
   have d:dL (match Oj dep n ops.toList draw with
    |some (gs,none)=>(match wz (tA P tt dM<|iS P tt dM f) tt n Q gs t M k wl with
     | .ok z u D v _=> .dv z u D v
     | .no=> .no)
    |some (gs,ad ps)=>(match x7 (tA P tt dM<|iS P tt dM f) tt n Q gs t M k wl []with
     | .ok z u D v fs=>(match Fz fs.reverse ps with
      |true=> .dv z u D v
      |false=> .no)
     | .no=> .no)
    |none=> .no) e t' H k' L:=w
   split at d
   .rename_i gs hc;split at d
    .rename_i z u D v ft hrt;obtain⟨rfl,rfl,rfl,rfl,rfl⟩:=dL.inj (e:= .dv) J d;let ⟨fs',gN⟩:=adn hrt [];exact adA kN di o4 hn hc j T U gN (λl hl=>by cases hl) id
    .exact(nD d).elim
   .rename_i gs ps hc;split at d
    .rename_i z u D v fs gN;split at d
     .rename_i hpk;obtain⟨rfl,rfl,rfl,rfl,rfl⟩:=dL.inj (e:= .dv) J d;exact adA kN di o4 hn hc j T U gN (λl hl=>by cases hl;exact hpk) id
     .exact(nD d).elim
    .exact(nD d).elim
   .exact(nD d).elim
  |rangeFunc _ _ _ _=>exact(nD w).elim
  |scope _=>exact(nD w).elim
  |label _=>exact(nD w).elim
  |goto _=>exact(nD w).elim
  |refuse _=>exact(nD w).elim
end
def HN(s:Y)(a:FH)(W:cQ):FH:=λb o=>if b<s then a b o else W.cell? ⟨b,o,none⟩
section
variable{P:bW}{tt:TT}
def UR{f}{vs}{bf r'}{A}{k'}(p:CX P f vs [] 0 bf A k')(hm:cR vs=[])(hr:r'.ak=[])(ha:CE (λa=>S a A) bf r'=ae):r P f vs r':=by
 refine⟨p.call,hr,?_⟩;intro H W B C g;have K:=yJ g;have N:bx {w0:=W,H0:=H,n:=Z vs} (·<0) (St.kn ⟨dG 0 vs,[],0,[]⟩) ⟨H,jT⟩ W (nl B):=by
  refine⟨by simp[nl,K],J,?_,?_,?_,?_,?_,C,⟨J,J,J,aO _,λ_ _ _=>rfl⟩,cL.refl _,λ_ _ _ _=>rfl,λ_ p=>absurd p<|vH _⟩
  .intro t v F;simp only[St.kn,cG]at F;let ⟨x,l,he⟩:=F;cases he;let ⟨_,u,hu,hr,_⟩:=nP vs B 0 g t v l;have c:B[t]? =ad u:=w8;simp only[nl,nM,vr,c,rh];exact hr
  .intro a b i;simp[St.kn,S]at i
  .intro a O b b' G i;simp[St.kn,S]at i
  .intro q x l a w;cases q with
   |m j=>simp[St.kn,S]at l
   |s t=>
    simp only[St.kn,cG]at l
    let ⟨y,R,he⟩:=l
    subst he
    let ⟨_,_,_,_,Y⟩:=nP vs B 0 g t y R
    have:=Y a w
    rw[hm]at this
    cases this
  .intro a x l;simp[St.kn,S]at l
 refine(p.spec _ _ W B J K N).mono ?_;rintro e X ⟨v,L,rfl,d⟩;have M:∀b o,b<W.heap.size->L.H b o=H b o:=λb o i=>d.fresh b o i<|λp=>p
 have I:wD (HN W.heap.size H X) L X (λa=>S a A):=by
  refine⟨?_,?_⟩
  .intro b o u hu;unfold HN;split
   .rename_i i;rw[<-M b o i];exact hu
   .exact d.sub b o u hu
  .intro a E z hl;have l:∃b,∃vs rest:V aV,cE (L.γ a)=ad b/\X.heap[b]? =ad (.cells (vs++rest).toArray E (0,0))/\aW L z vs/\W.heap.size<=b:=by
    rcases hl with⟨sz,hl⟩|hl
    .let ⟨b,ws,rest,Q,T,U,k,_⟩:=d.cX a (.box E sz z) A';exact⟨b,ws,rest,Q,T,U,by rcases k with k|k;exact k;exact k.elim⟩
    .let ⟨b,ws,rest,Q,T,U,k,_⟩:=d.cX a (.fz E z) A';exact⟨b,ws,rest,Q,T,U,by rcases k with k|k;exact k;exact k.elim⟩
   let ⟨b,ws,rest,Q,T,U,D⟩:=l;exact⟨b,ws,rest,Q,λo=>by simp only[HN,Nat.not_lt.2 D,bN],T,U⟩
 have D:=d.eY 0 bf (by simp[St.kn,S]);have h2:bu L bf v:=by simpa[nl]using D
 refine⟨v,HN W.heap.size H X,J,acZ I ha h2,λb o u hu=>I.le b o u<|d.le b o u hu,λb o i=>by simp[HN,i],?_,⟨d.below.os,d.below.tape,d.below.output,d.below.size,λG hk=>d.below.block G hk<|λp=>p⟩⟩;intro b o u hu;unfold HN at hu;split at hu
 .rename_i i;rw[<-M b o i]at hu;exact d.sub b o u hu
 .exact hu
def adD(a:AV):Cr->Bool
 | .ok d ms _ _=>CE (λf=>S f ms.flatten) d a
 |_=>ah
def ao4{a:kd->V AV->Ms->ax (V AV×AV)}(m:P.follows .mixedOrders=ae)(g:cq P tt=ae)(d:∀f vs s i n,a f vs s=ad (i,n)->r P f i n) fuel{f}{vs}{o}
  (l:adD o (tA P tt a (iS P tt a fuel) f vs [] 0)=ae) (hm:cR vs=[]) (t:o.ak=[]):r P f vs o:=by
 cases hx:tA P tt a (iS P tt a fuel) f vs [] 0 with
 |ok n s k wl=>
  rw[hx]at l
  have p:=(UP g d<|FO m g d fuel).ok hx (λu b v=>by simp[bD]at v)<|λu fe=>Dw
  exact UR p.1 hm t l
 |_=>rw[hx]at l;cases l
end
def fj.re(a:fj)(W:cQ)(g:Gh)(k:Y):fj:={a with w0:=W,H0:=g.H,own:=λb=>a.N b/\∀o:Obj,W.heap[b]? =ad o->o.isCells=ae,k0:=k,γ0:=g.γ}
def aG.isM:aG->Bool
 | .mp _ _ _=>ae
 | .it _ _ _=>ae
 |_=>ah
def fV.reM{s t:Y->Prop}{g}{W}{y}{a}(u:∀(x:Y)(vs:Array aV)(o:TypeId)(p:Y×Y),W.heap[x]? =ad (.cells vs o p)->s x->t x)(A:∀(x:Y),a.isM=ae->s x->t x)(k:fV s g W y a):fV t g W y a:=by
 cases a with
 |box o sz cs=>
  let ⟨a,vs,rest,e,hh,l,d,i⟩:=k
  exact⟨a,vs,rest,e,hh,l,u _ _ _ _ hh d,i⟩
 |vec o T xs=>
  rcases k with k|⟨a,cap,vs,e,hh,C,h2,v,H,d,i⟩
  .exact .inl k
  .exact .inr ⟨a,cap,vs,e,hh,C,h2,v,H,u _ _ _ _ hh d,i⟩
 |hY f first B=>exact k
 |fz o cs=>
  let ⟨a,vs,rest,e,hh,l,d,i⟩:=k
  exact⟨a,vs,rest,e,hh,l,u _ _ _ _ hh d,i⟩
 |mp L M xs=>
  let ⟨r,es,e,hh,l,d,i⟩:=k
  exact⟨r,es,e,hh,l,A _ J d,i⟩
 |it m n seen=>
  let ⟨r,a,e,K,hh,d,i⟩:=k
  exact⟨r,a,e,K,hh,A _ J d,i⟩
def US(a:Kn):Prop:=∀d b,b.isM=ae->a (.m d)≠ad (.b b)
section
variable{F:fj}{k k':Y}{σ σ':Kn}{g g':Gh}{W W':cQ}{a a':Act}
def bx.re(d:bx F (·<k) σ g W a)(f:US σ):bx (F.re W g k) (·<k) σ g W a:=by refine⟨d.size,d.defers,d.eY,λi b m=>(d.cX i b m).reM ?_<|λ_ n=>(f i b n m).elim,d.inj,d.ak,d.ew,d.sub,⟨J,J,J,aO _,λ_ _ _=>rfl⟩,cL.refl _,λ_ _ _ _=>rfl,λi l=>⟨l,J⟩⟩;intro x vs E p s t;refine .inr ⟨t,λo ho=>?_⟩;rw[s]at ho;cases ho;rfl
def bx.un(f:bx F (·<k) σ g W a)(d:bx (F.re W g k) (·<k') σ' g' W' a'):
  bx F (·<k') σ' g' W' a'/\KeepsOthers W W'/\gC (·<k) g g':=by
 refine⟨⟨d.size,d.defers,d.eY,λs b v=>(d.cX s b v).reM ?_ ?_,d.inj,d.ak,d.ew,d.sub,?_,f.le.trans d.le,?_,?_⟩,?_,d.le,λs n=>(d.gK s n).2⟩
 .intro x vs E p B i;rcases i with i|i
  .exact .inl<|bm f.below.size i
  .exact i.1
 .intro x _ i;rcases i with i|i
  .exact .inl<|bm f.below.size i
  .exact i.1
 .refine⟨d.below.os.trans f.below.os,d.below.tape.trans f.below.tape,d.below.output.trans f.below.output,bm f.below.size d.below.size,λj t l=>?_⟩;rw[<-f.below.block j t l];refine d.below.block j (iI t f.below.size)<|λu=>?_;rcases u.1 with m|m
  .omega
  .exact l m
 .intro b o v l;rw[<-f.fresh b o v l];refine d.fresh b o (iI v f.below.size)<|λu=>?_;rcases u.1 with m|m
  .omega
  .exact l m
 .intro s n;have m:=f.gK s n;have y:=d.gK s m.1;exact⟨y.1,y.2.trans m.2⟩
 .refine⟨d.below.size,λj o t A=>?_⟩;rw[<-t];refine d.below.block j (gL.1 t).1<|λu=>?_;rw[u.2 o t]at A;cases A
def UU:Obj->Bool
 | .cells .. =>ae
 | .map .. =>ae
 | .mapIter .. =>ae
 |_=>ah
def ao5{o:Obj}(d:o.isCells=ae):UU o=ae:=by cases o<;>first|rfl|cases d
structure WX(B:Y)(W W':cQ):Prop where
 os:W'.os=W.os
 tape:W'.tape=W.tape
 output:W'.output=W.output
 size:W.heap.size<=W'.heap.size
 same:∀(k:Y)(o:Obj),W.heap[k]? =ad o->UU o=ae\/k<B->W'.heap[k]? =ad o
def bx.wx{l:Y->Prop}(d:bx F l σ g W a)(p:WX F.w0.heap.size W W'):bx F l σ g W' a:=by
 refine⟨d.size,d.defers,d.eY,λK b L=>?_,d.inj,d.ak,d.ew,?_,⟨p.os.trans d.below.os,p.tape.trans d.below.tape,p.output.trans d.below.output,bm d.below.size p.size,λj x y=>?_⟩,d.le,d.fresh,d.gK⟩
 .have i:=d.cX K b L;cases b with
  |box E sz cs=>
   let ⟨b,vs,rest,e,hh,i,s,t⟩:=i
   exact⟨b,vs,rest,e,p.same _ _ hh<|.inl J,i,s,t⟩
  |vec E T xs=>
   rcases i with d|⟨b,cap,vs,e,hh,M,h2,A,P,s,t⟩
   .exact .inl d
   .exact .inr ⟨b,cap,vs,e,p.same _ _ hh<|.inl J,M,h2,A,P,s,t⟩
  |hY f first B=>exact i
  |fz E cs=>
   let ⟨b,vs,rest,e,hh,i,s,t⟩:=i
   exact⟨b,vs,rest,e,p.same _ _ hh<|.inl J,i,s,t⟩
  |mp q w xs=>
   let ⟨r,es,e,hh,i,s,t⟩:=i
   exact⟨r,es,e,p.same _ _ hh<|.inl J,i,s,t⟩
  |it m n seen=>
   let ⟨r,b,e,Q,hh,s,t⟩:=i
   exact⟨r,b,e,Q,p.same _ _ hh<|.inl J,s,t⟩
 .intro b o v U;have C:=d.sub b o v U;let ⟨z,H,X⟩:=cells_of_cell C;rw[<-C];exact World.cell?_of_block<|(p.same _ _ H<|.inl<|ao5 X).trans H.symm
 .have c:j<W.heap.size:=iI x d.below.size;have u:W.heap[j]? =ad W.heap[j]:=Qz c;rw[p.same j _ u (.inr x),<-d.below.block j x y,u]
def WX.refl B W:WX B W W:=⟨J,J,J,aO _,λ_ _ h _=>h⟩
def WX.trans{B}{A C i}(d:WX B A C)(f:WX B C i):WX B A i:=
 ⟨f.os.trans d.os,f.tape.trans d.tape,f.output.trans d.output,bm d.size f.size,λk o m l=>f.same k o (d.same k o m l) l⟩
def WX.alloc B W(o:Obj):WX B W (W.alloc o):=
 ⟨J,J,J,az,λk _ d _=>(Below.heap_alloc W o k (gL.1 d).1).trans d⟩
def WX.putObj{B}{W}{l}{o:Obj}(m:Obj)(n:W.heap[l]? =ad o)(p:UU o=ah)(s:B<=l):WX B W (W.putObj l m):=
 ⟨J,J,J,az,λk t f d=>by
  have i:k≠l:=by
   intro e;subst e;rw[n]at f;cases f;rcases d with d|d
   .rw[p]at d;cases d
   .omega
  rw[OG i];exact f⟩
def Gh.new(g:Gh)(k:Y)(u:aV):Gh:=⟨g.H,λd=>if d=k then u else g.γ d⟩
def bx.ao6(d:bx F (·<k) σ g W a) u:bx F (·<k+1) σ (g.new k u) W a:=by
 have l:=d.step (chg:=λ_=>False) (g':=g.new k u) (W':=W) (a':=a) ⟨⟨cL.refl _,λi f=>by have:i≠k:=Nat.ne_of_lt f;simp[Gh.new,this]⟩,λ_ _ _=>rfl,d.sub,aO _,λ_ _ _=>rfl,J,J,J⟩ [] k (Nat.lt_irrefl k) J d.defers (λ_ _=>rfl) (λ_ d=>d.elim) (λ_ _ d=>by simp[aE]at d) (λ_ _ d=>by simp[aE]at d) (λ_ _ d=>by simp[aE]at d) (λ_ _ d=>by simp[aE]at d);refine l.weaken ?_;rintro i (f|rfl)
 .exact Oy f
 .exact dK _
end
section
variable{F:fj}{k k':Y}{g g':Gh}{W W':cQ}{a a':Act}{dep n adH n':Y}{t t':Tr}{m m':Mem}{ds OH:V JA}{rd UW:ax Y}
def bx.swap{A}(o:bx {F with n:=A,ds:=ds,rd:=rd} (·<k) (bh dep n t m).kn g W a)(f:bx {F with n:=n',ds:=OH,rd:=UW} (·<k') (bh adH n' t' m').kn g' W' a')(H:k<=k')(L:gC (·<k) g g'):
  bx {F with n:=A,ds:=ds,rd:=rd} (·<k') (bh dep n t m').kn g' W' a:=by
 have p:∀d x,(bh dep n t m').kn (.m d)=ad x->(bh adH n' t' m').kn (.m d)=ad x:=λd x l=>l
 refine⟨o.size,o.defers,λs v B=>?_,λd b C=>f.cX d b<|p _ _ C,λd u b K M P Q T U=>f.inj d u b K M (p _ _ P) (p _ _ Q) T U,λy x l d i=>?_,λd x l=>f.ew d x<|p _ _ l,f.sub,f.below,f.le,f.fresh,f.gK⟩
 .exact bu.mono L (λd i=>o.ak (.s s) (.v v) B d i)<|o.eY s v B
 .cases y with
  |s j=>exact iI (o.ak (.s j) x l d i) H
  |m j=>exact f.ak (.m j) x (p _ _ l) d i
def bx.defer{d:Y->Prop}{i}{l}(f:bx {F with n:=l,ds:=ds,rd:=rd} d i g W a) OH UW:bx {F with n:=l,ds:=OH,rd:=UW} d i g W {a with defers:=OH}:=
 ⟨f.size,J,f.eY,f.cX,f.inj,f.ak,f.ew,f.sub,f.below,f.le,f.fresh,f.gK⟩
def bx.adI{p}(f:bx {F with n:=p,ds:=ds,rd:=rd} (·<k) (bh dep n t m).kn g W a)(U:n<=4^dep)(B:p=n){d}(T:d<n){v}{u}(hv:bu g v u)(H:∀l∈v.ak,l<k):
  bx {F with n:=p,ds:=ds,rd:=rd} (·<k) (bh dep n (jK (de dep d) v t) m).kn g W {a with tmps:=a.tmps.setIfInBounds d u}:=by
 subst B
 have C:=Fq dep p t m d v U T
 have A:∀s x,(bh dep p (jK (de dep d) v t) m).kn (.s s)=ad (.v x)->(s=d/\x=v)\/(s≠d/\(bh dep p t m).kn (.s s)=ad (.v x)):=by
  intro s x i;rw[C]at i;by_cases e:s=d
  .subst e;simp[bs,aE]at i;exact .inl ⟨J,i.symm⟩
  .have K:d≠s:=λf=>e f.symm
   simp[bs,aE,K]at i;exact .inr ⟨e,i⟩
 have X:∀l,(bh dep p (jK (de dep d) v t) m).kn (.m l)=(bh dep p t m).kn (.m l):=λ_=>rfl
 refine⟨by simpa using f.size,f.defers,λs x c=>?_,λl b q=>f.cX l b q,λl L b r w z D E G=>f.inj l L b r w z D E G,λM x i l o=>?_,λl x i=>f.ew l x i,f.sub,f.below,f.le,f.fresh,f.gK⟩
 .rcases A s x c with⟨rfl,rfl⟩|⟨P,i⟩
  .have Q:s<a.tmps.size:=by rw[f.size];exact T
   simpa[Q]using hv
  .have K:d≠s:=λf=>P f.symm
   have:=f.eY s x i;simpa[lE K]using this
 .cases M with
  |m j=>exact f.ak (.m j) x i l o
  |s j=>
   cases x with
   |b _=>simp[bh,St.kn]at i
   |v y=>
    rcases A j y i with⟨_,rfl⟩|⟨_,i⟩
    .exact H l o
    .exact f.ak (.s j) _ i l o
end
section
variable{P:bW}{F:fj}{n:Y}{c:g7}{st st':St}{k k':Y}{e:Ex}{g:Gh}{W:cQ}{a:Act}
def HA.xl(s:HA P n c st k e st' k')(t:F.n=n)(f:nn F.rd c)(m:bx F (·<k) st.kn g W a)(i:US st.kn):
  c.wpIn (gn F.rd) 0 P (λo p l=>o=e.Hz/\∃d,bx F (·<k') st'.kn d l p/\KeepsOthers W l/\gC (·<k) g d) a W:=by
 refine wpIn_mono (s.2 (F.re W g k) t f g W a<|m.re i) ?_
 rintro o p l ⟨rfl,d,u⟩
 exact⟨J,d,m.un u⟩
end
inductive iT(S:Type) where
 |no
 |dv (s:S)
 |gP (a:Y) (s:S)
 |ret (s:S)
def iT.post{g:Type}(f:g->Act->cQ->Prop):iT g->Exit->Act->cQ->Prop
 | .dv s,d,a,W=>d= .normal/\f s a W
 | .gP id s,d,a,W=>d= .exit id/\f s a W
 | .ret s,d,a,W=>d= .ret/\f s a W
 | .no,_,_,_=>False
section
variable{S:Type}(leaf:g7->S->iT S)(ev:eI->S->ax Bool)
noncomputable def UX(a:g7->S->iT S)(x y:g7)(s:S):iT S:=match a x s with
 | .dv s1=>a y s1
 |r=>r
noncomputable def UY(a:g7->S->iT S)(d:eI)(x y:g7)(s:S):iT S:=match ev d s with
 |some b=>(match b with
  |true=>a x s
  |false=>a y s)
 |none=> .no
noncomputable def UZ(d:g7->S->iT S)(f:Y)(x:g7)(s:S):iT S:=match d x s with
 | .gP a s1=>(match g6 a f with
  |true=> .dv s1
  |false=> .gP a s1)
 |r=>r
noncomputable def U0(a:g7->S->iT S)(x:g7)(s:S):iT S:=match a x s with
 | .dv s1=>a (.loop x) s1
 |r=>r
noncomputable def ao7(a:g7->S->iT S):g7->S->iT S
 | .skip=> .dv
 | .label _=> .dv
 | .exit id=> .gP id
 | .ret=> .ret
 | .seq x y=>UX a x y
 | .cond d x y=>UY ev a d x y
 | .block id x=>UZ a id x
 | .scope x=>a x
 | .loop x=>U0 a x
 |d=>leaf d
noncomputable def gen(a:Y):g7->S->iT S:=Nat.rec (motive:=λ_=>g7->S->iT S) (λ_ _=> .no) (λ_ d=>ao7 leaf ev d) a
end
section
variable{P:bW}{Fe:Fence}{n:Y}{Q:Exit->Act->cQ->Prop}{a:Act}{w:cQ}
def ao8{i}(A:i.wpIn Fe n P (Exit.noGoto Q) a w):(Code.scope i).wpIn Fe n P Q a w:=by
 intro b k m t u v;have o:step P (lone (b.atR a<|.code (.scope i)::k) m w)= .next (lone (b.atR a<|.code i:: .inScope i::k) m w):=step_lone_go (by simp[Go.stepG,ao9,Frame.atR])
 have s2:∀a w,step P (lone (b.atR a<|.inScope i::k) m w)= .next (lone (b.atR a k) m w):=λa w=>step_lone_go (by simp[Go.stepG,ao9,Frame.atR])
 have p:(lone (b.atR a<|.code (.scope i)::k) m w).fenced P Fe:=fenced_calm u v J;let ⟨e,f,g,s,d⟩:=A b (.inScope i::k) m t u v;cases e with
 |normal=>exact⟨.normal,f,g,s,.head p o<|StepsIn.trans d<|.one (fenced_calm u v J)<|s2 _ _⟩
 |exit id=>
  refine⟨.exit id,f,g,s,λB x=> .head p o (d.1 B<|by simp[exitTo,x]),λy x=>?_⟩
  let ⟨k₁,C,h2⟩:=d.2 y (by simp[exitTo,x])
  exact⟨k₁,C,.head p o h2⟩
 |goto l=>exact s.elim
 |ret=>exact⟨_,f,g,s,.of_steps (.one p o) d⟩
 |panic ch=>exact⟨_,f,g,s,.of_steps (.one p o) d⟩
 |outgrown=>exact⟨_,f,g,s,.of_steps (.one p o) d⟩
end
section
variable{P:bW}{Fe:Fence}{S:Type}{leaf:g7->S->iT S}{ev:eI->S->ax Bool}{I:S->Act->cQ->Prop}
def adJ(k:∀o s d,leaf o s=d->d≠ .no->∀a W,I s a W->o.wpIn Fe 0 P (d.post I) a W)
  (T:∀o s H,ev o s=ad H->∀a W,I s a W->a.eval o= .bool H):
  ∀(l:Y)(o:g7)(s:S)(d:iT S),gen leaf ev l o s=d->d≠ .no->∀a W,I s a W->o.wpIn Fe 0 P (d.post I) a W:=by
 intro l
 induction l using Gs with
 |_ l K=>
 cases l with
 |zero=>intro o s d h m;exact absurd h.symm m
 |succ f=>
  have t:=K f O
  intro o s d h m a W g
  cases o with
  |skip=>have h:iT.dv s=d:=h;subst h;exact wpIn_skip ⟨J,g⟩
  |label _=>have h:iT.dv s=d:=h;subst h;exact wpIn_label ⟨J,g⟩
  |exit id=>have h:iT.gP id s=d:=h;subst h;exact wpIn_exit ⟨J,g⟩
  |ret=>have h:iT.ret s=d:=h;subst h;exact wpIn_ret ⟨J,g⟩
  |seq x y=>
   have h:UX (gen leaf ev f) x y s=d:=h
   unfold UX at h
   refine wpIn_seq ?_
   cases hx:gen leaf ev f x s with
   |no=>rw[hx]at h;exact absurd h.symm m
   |dv s1=>
    rw[hx]at h
    refine wpIn_mono (t x s _ hx az a W g) ?_
    rintro e u v ⟨rfl,i⟩
    exact t y s1 d h m u v i
   |gP id s1=>
    rw[hx]at h
    subst h
    refine wpIn_mono (t x s _ hx az a W g) ?_
    rintro e u v ⟨rfl,i⟩
    exact⟨J,i⟩
   |ret s1=>
    rw[hx]at h
    subst h
    refine wpIn_mono (t x s _ hx az a W g) ?_
    rintro e u v ⟨rfl,i⟩
    exact⟨J,i⟩
  |cond A x y=>
   have h:UY ev (gen leaf ev f) A x y s=d:=h
   unfold UY at h
   cases hc:ev A s with
   |none=>rw[hc]at h;exact absurd h.symm m
   |some H=>
    rw[hc]at h
    have X:=T A s H hc a W g
    cases H with
    |true=>exact wpIn_cond_split X (λ_=>t x s d h m a W g)<|λe=>wE
    |false=>exact wpIn_cond_split X (λe=>wE)<|λ_=>t y s d h m a W g
  |block id x=>
   have h:UZ (gen leaf ev f) id x s=d:=h
   unfold UZ at h
   refine wpIn_block ?_
   cases hx:gen leaf ev f x s with
   |no=>rw[hx]at h;exact absurd h.symm m
   |dv s1=>
    rw[hx]at h
    subst h
    refine wpIn_mono (t x s _ hx az a W g) ?_
    rintro e u v ⟨rfl,i⟩
    exact⟨J,i⟩
   |gP L s1=>
    rw[hx]at h
    dsimp only at h
    refine wpIn_mono (t x s _ hx az a W g) ?_
    rintro e u v ⟨rfl,i⟩
    cases p:g6 L id with
    |true=>
     rw[p]at h
     subst h
     have:=lL p
     subst this
     simp only[DP,cj]
     exact⟨J,i⟩
    |false=>
     rw[p]at h
     subst h
     have U:L≠id:=by intro j;subst j;rw[Jh]at p;cases p
     simp only[DP,U,bN]
     exact⟨J,i⟩
   |ret s1=>
    rw[hx]at h
    subst h
    refine wpIn_mono (t x s _ hx az a W g) ?_
    rintro e u v ⟨rfl,i⟩
    exact⟨J,i⟩
  |scope x=>
   have h:gen leaf ev f x s=d:=h
   refine ao8<|wpIn_mono (t x s d h m a W g) ?_
   intro e u v Q
   cases d with
   |no=>exact Q.elim
   |dv s1=>obtain⟨rfl,i⟩:=Q;exact⟨J,i⟩
   |gP id s1=>obtain⟨rfl,i⟩:=Q;exact⟨J,i⟩
   |ret s1=>obtain⟨rfl,i⟩:=Q;exact⟨J,i⟩
  |loop x=>
   refine adz (λ(y:Y×S) a W=>y.1<=f+1/\gen leaf ev y.1 (.loop x) y.2=d/\I y.2 a W) (λy=>y.1) (f+1,s) ⟨aO _,h,g⟩ ?_
   rintro⟨C,M⟩ a W ⟨q,n,g⟩
   simp only at q n g⊢
   cases C with
   |zero=>exact absurd n.symm m
   |succ C=>
    have n:U0 (gen leaf ev C) x M=d:=n
    unfold U0 at n
    have B:=K C O
    cases hx:gen leaf ev C x M with
    |no=>rw[hx]at n;exact absurd n.symm m
    |dv s1=>
     rw[hx]at n
     refine wpIn_mono (B x M _ hx az a W g) ?_
     rintro e u v ⟨rfl,i⟩
     exact⟨(C,s1),⟨by simp only;omega,n,i⟩,az⟩
    |gP id s1=>
     rw[hx]at n
     subst n
     refine wpIn_mono (B x M _ hx az a W g) ?_
     rintro e u v ⟨rfl,i⟩
     exact⟨J,i⟩
    |ret s1=>
     rw[hx]at n
     subst n
     refine wpIn_mono (B x M _ hx az a W g) ?_
     rintro e u v ⟨rfl,i⟩
     exact⟨J,i⟩
  |region id ops draw=>exact k _ s d h m a W g
  |rangeFunc _ _ _ _=>exact k _ s d h m a W g
  |goto _=>exact k _ s d h m a W g
  |refuse _=>exact k _ s d h m a W g
end
section
variable{P:bW}{tt:TT}{dM:kd->V AV->Ms->ax (V AV×AV)}
def U1(U:cq P tt=ae){m:mY}(u:wG P m){dep n:Y}(hn:n<=4^dep){ops:Array a4}:∀(os:V a4)(i:Y){gs:V GI}{t:Tr}{v:Ms}{k:Y}{L:V Y}{x:Tr}{d:Ms}{p:Y}{l:V Y}{f:Ft},
  wz m tt n 0 gs t v k L= .ok x d p l f->wA dep n ops.toList os=ad gs->(∀M o,os[M]? =ad o->ops[i+M]? =ad o)->dT dep n t k->fv v k->
  k<=p/\dT dep n x p/\fv d p/\∀(s:fj),s.n=n->AM s.rd ops->∀(Q:Exit->Act->cQ->Prop)(rest:V Y) g W a,bx s (·<k) (bh dep n t v.flatten).kn g W a->
   (∀g' W' a',bx s (·<p) (bh dep n x d.flatten).kn g' W' a'->wpOpsIn (gn s.rd) 0 P ops Q rest a' W')->wpOpsIn (gn s.rd) 0 P ops Q (adK i (Z os)++rest) a W
 |[],i,gs,t,v,k,L,x,d,p,l,f,T,hc,_,A,B=>by simp only[wA,ar]at hc;subst hc;have h':Rs.ok t v k L .n= .ok x d p l f:=T;simp only[Rs.ok.injEq]at h';obtain⟨rfl,rfl,rfl,rfl,rfl⟩:=h';exact⟨aO _,A,B,λs X C Q rest g W a b c=>c g W a b⟩
 |o::os,i,gs,t,v,k,L,x,d,p,l,f,T,hc,y,A,B=>by
  simp only[wA]at hc;split at hc
  .rename_i z K I e;cases hc;have N:wz m tt n 0 (z::K) t v k L=match wy m tt n 0 z t v k L with| .ok x d p l _=>wz m tt n 0 K x d p l| .no=> .no:=rfl
   rw[N]at T;split at T
   .rename_i t1 R k1 S f1 hs;have ho:ops[i]? =ad o:=by have:=y 0 o J;simpa using this
    let ⟨⟨ks,⟨rd,wr,q,r,w,hle,_,_⟩,_,D⟩,_⟩:=adl U u (aY _) hn ho I A B hs;let ⟨E,G,h3,h4⟩:=U1 U u hn os (i+1) T e (λM o' hj=>by have:=y (M+1) o' ot;rwa[(O:i+(M+1)=i+1+M)]at this) D.dT D.fv;refine⟨bm hle E,G,h3,λs X C Q rest g W a b c=>?_⟩;rw[ik,Ki,m7,wpOpsIn_cons];refine P5 (C i) ?_;refine q s X _ (·<k) _ g W a _ (λid E G=>O) b r<|λg' W' a' h'=>?_;rw[<-w]at h';exact h4 s X C Q rest g' W' a' (h'.weaken<|λid H=>by rcases H with H|H<;>omega) c
   .cases T
  .cases hc
noncomputable def pS(dep:Y):V Y->V AV->Tr->Tr
 |p::ps,v::vs,t=>pS dep ps vs<|jK (de dep p) v t
 |_,_,t=>t
def sj:V Y->V aV->Array aV->Array aV
 |p::ps,u::us,a=>sj ps us<|a.setIfInBounds p u
 |_,_,a=>a
def adL:∀(ps:V Y)(d:V aV)(a:Array aV),(ps.zip d).foldl (λf(t,a)=>f.setIfInBounds t a) a=sj ps d a
 |[],d,a=>by simp[sj]
 |p::ps,[],a=>by simp[sj]
 |p::ps,u::d,a=>by simp only[List.zip_cons_cons,KJ,sj];exact adL ps d<|a.setIfInBounds p u
def ao'(ps:V Y)(f:V aV)(a:Array aV):(ps.toArray.zip f.toArray).foldl (λd(t,a)=>d.setIfInBounds t a) a=sj ps f a:=by rw[List.zip_toArray,<-adL];simp
noncomputable def OI(dep:Y)(t:Tr):V Y->ax (V AV)
 |[]=>ad []
 |x::xs=>match jA (de dep x) t,OI dep t xs with
  |some v,ad vs=>ad<|v::vs
  |_,_=>none
def dT.pS{dep n k:Y}(g:n<=4^dep):∀{ps:V Y}{vs:V AV}{t:Tr},dT dep n t k->(∀p∈ps,p<n)->(∀d∈cR vs,d<k)->dT dep n (pS dep ps vs t) k
 |[],_,_,f,_,_=>by simpa[El.pS]using f
 |_::_,[],_,f,_,_=>by simpa[El.pS]using f
 |p::ps,v::vs,t,f,hp,i=>dT.pS g (ps:=ps) (vs:=vs) (f.set g (hp p az)<|λd a=>i d<|eH _ a) (λl m=>hp l<|ko _ m)<|λd a=>i d<|gD _ a
def bx.pS{x:fj}{s dep n k:Y}{ds:V JA}{rd:ax Y}{m:Mem}{g:Gh}{W:cQ}(y:n<=4^dep)(f:s=n):∀{ps:V Y}{vs:V AV}{us:V aV}{t:Tr}{a:Act},bx {x with n:=s,ds:=ds,rd:=rd} (·<k) (bh dep n t m).kn g W a->(∀p∈ps,p<n)->fw g vs us->(∀i∈cR vs,i<k)->
  bx {x with n:=s,ds:=ds,rd:=rd} (·<k) (bh dep n (pS dep ps vs t) m).kn g W {a with tmps:=sj ps us a.tmps}
 |[],_,_,_,_,l,_,_,_=>by simpa[El.pS,sj]using l
 |_::_,[],us,_,_,l,_,o,_=>by have o:us=[]:=o;subst o;simpa[El.pS,sj]using l
 |p::ps,v::vs,us,t,a,l,hp,o,A=>by obtain⟨u,r,rfl,B,C⟩:=o;exact bx.pS y f (ps:=ps) (vs:=vs) (us:=r) (l.adI y f (hp p az) B<|λi d=>A i<|eH _ d) (λq H=>hp q<|ko _ H) C<|λi d=>A i<|gD _ d
def qZ(fn:kd)(tmps:Array aV)(p:V Y)(a f:g7)(g:Y)(d:ax g7):Loop:=
 {state:=if d.isNone then .ready else .done,pending:=d,fn:=fn,tmps:=tmps,params:=⟨p⟩,assign:=a,body:=f,defers:=g}
structure SY where
 t:Tr
 ms:Ms
 k:Y
 pd:ax g7
noncomputable def FP(a:Ms):Bool:=a.all λm=>m.all λe=>match e.2 with
 | .mp _ _ _=>ah
 | .it _ _ _=>ah
 |_=>ae
def adM{d:Type}{f:Y}{g:d}:∀{m:V (Y×d)},S f m=ad g->(f,g)∈m
 |[],a=>by cases a
 | (k,x)::m,a=>by
  simp only[S]at a;split at a
  .rename_i i;cases a;subst i;exact Dh
  .exact ko _<|adM a
def FQ{a}(f:FP a=ae) dep n t:US (bh dep n t a.flatten).kn:=by
 intro p y g e;rw[Fo]at e;simp only[cG,Info.b.injEq]at e;obtain⟨b,i,rfl⟩:=e;have k:=adM i;obtain⟨m,l,o⟩:=List.mem_flatten.1 k;have d:=jS.1 (jS.1 f m l) _ o;cases b with
 |mp s u xs=>cases d
 |it m n seen=>cases d
 |_=>cases g
noncomputable def FR(a:Ms)(d:Rc):Rc:=match FP a with
 |true=>d
 |false=> .no
def FT{f}{g d:Rc}(a:FR f g=d)(i:d≠ .no):FP f=ae/\g=d:=by
 unfold FR at a;split at a
 .rename_i e;exact⟨e,a⟩
 .exact absurd a.symm i
noncomputable def OJ(a:Ms)(d:Rs):Rs:=match FP a with
 |true=>d
 |false=> .no
def adN{f}{g d:Rs}(a:OJ f g=d)(i:d≠ .no):FP f=ae/\g=d:=by
 unfold OJ at a;split at a
 .rename_i e;exact⟨e,a⟩
 .exact absurd a.symm i
noncomputable def OK(P:bW)(tt:TT)(dM:kd->V AV->Ms->ax (V AV×AV))(l a m:Y)(o:Tr)(p:V Y)(i s:g7)(v:V AV)(n:Ms)(k:Y):ax (ax g7×Ms×Y):=
 match FR n (iS P tt dM l a m 0 i (pS a p v o) n k [])with
 | .dv t1 f t _=>(match FR f (iS P tt dM l a m 0 s t1 f t [])with
  | .dv _ d g _=>ad (none,d,g)
  | .gP id _ d g _=>ad (ad<|.exit id,d,g)
  | .ret _ d g _=>ad (ad .ret,d,g)
  | .no=>none)
 |_=>none
def OL:V eI->ax (V Y)
 |[]=>ad []
 | .tmp x::a=>(match OL a with
  |some l=>ad<|x::l
  |none=>none)
 |_::_=>none
def adO:∀{l:V eI}{xs:V Y},OL l=ad xs->l=xs.map adP
 |[],xs,a=>by cases a;rfl
 | .tmp x::f,xs,a=>by
  simp only[OL]at a;split at a
  .rename_i l d;cases a;simp[adO d]
  .cases a
 | .const _::_,_,a=>by cases a
 | .func _::_,_,a=>by cases a
 | .global _::_,_,a=>by cases a
def OM(o:a4):ax (Y×Y×V Y):=match o.dst,o.op with
 |some d,.call ⟨.value<|.tmp j,⟨args⟩,_⟩=>(match OL args with
  |some xs=>ad (d,j,xs)
  |none=>none)
 |_,_=>none
def JB:V a4->Y->V a4->ax (Y×a4×(Y×Y×V Y))
 |_,_,[]=>none
 |all,i,o::os=>match OM o with
  |some a=>ad (i,o,a)
  |none=>JB all (i+1) os
noncomputable def gdY(dep n:Y)(a:V a4)(o:a4)(t:Tr):Bool:=match o.guard with
 |none=>ae
 |some (j,want)=>(match oT a j with
  |some d=>(match dy d n,jA (de dep d) t with
   |true,ad (.c<|.B b)=>b==want
   |_,_=>ah)
  |none=>ah)
noncomputable def adS(P:bW)(tt:TT)(dM:kd->V AV->Ms->ax (V AV×AV))(u dep n A:Y)(H:Y)(g:V AV->Ms->Y->ax (ax g7×Ms×Y))(a:Array a4)(s:SY):iT SY:=
 match JB a.toList 0 a.toList with
 |some (i,o,(d,j,x))=>(match wA dep n a.toList (c i a.toList),wA dep n a.toList (aA (i+1) a.toList)with
  |some C,ad K=>(match OJ s.ms (wz (tA P tt dM<|iS P tt dM u) tt n 0 C s.t s.ms s.k [])with
   | .ok t1 l L _ _=>(match gdY dep n a.toList o t1&&dy d n&&dy j n&&x.all (λy=>dy y n)&&g6 (Z x) H with
    |true=>(match jA (de dep j) t1,OI dep t1 x with
     |some (.c<|.X m),ad v=>(match g6 m A with
      |true=>(match g v l L with
       |some (pd,f,M)=>(match OJ f (wz (tA P tt dM<|iS P tt dM u) tt n 0 K (jK (de dep d) (.c<|.B pd.isNone) t1) f M [])with
        | .ok t3 p Q _ _=> .dv ⟨t3,p,Q,pd⟩
        | .no=> .no)
       |none=> .no)
      |false=> .no)
     |_,_=> .no)
    |false=> .no)
   | .no=> .no)
  |_,_=> .no)
 |none=> .no
noncomputable def U2(P:bW)(tt:TT)(dM:kd->V AV->Ms->ax (V AV×AV))(f dep n g:Y)(i:Y)(a:V AV->Ms->Y->ax (ax g7×Ms×Y))(l:g7)(s:SY):iT SY:=match l with
 | .region id ops draw=>(match FR s.ms (iS P tt dM f dep n 0 (.region id ops draw) s.t s.ms s.k [])with
  | .dv m d o _=> .dv ⟨m,d,o,s.pd⟩
  |_=>(match draw with
   |false=>(match s.pd with
    |none=>adS P tt dM f dep n g i a ops s
    |some _=> .no)
   |true=> .no))
 |_=> .no
noncomputable def U3(dep n:Y)(a:eI)(s:SY):ax Bool:=match iR dep n a with
 |some p=>(match jZ s.t p with
  |some (.c<|.B b)=>ad b
  |_=>none)
 |none=>none
def IY(m:fj)(dep n d f:Y)(o:Tr)(u:Act)(i:V JA)(p l:Y)(rc:ax g7->Loop)(mk:V Y)(s:SY)(a:Act)(W:cQ):Prop:=
 ∃g,dT dep n s.t s.k/\fv s.ms s.k/\dT d f o s.k/\bx {m with n:=n,ds:=[],rd:=none} (·<s.k) (bh dep n s.t s.ms.flatten).kn g W a/\
  bx {m with n:=f,ds:=i,rd:=none} (·<s.k) (bh d f o s.ms.flatten).kn g W u/\p<s.k/\g.γ p= .func (.yield l) #[] #[]/\W.heap[l]? =ad (.loop<|rc s.pd)/\∀D∈mk,W.heap[D]? =ad (.deferred<|ad [])
def adT{all:V a4}:∀{g:V a4}{i a:Y}{o:a4}{f:Y×Y×V Y},JB all i g=ad (a,o,f)->OM o=ad f/\i<=a/\g[a-i]? =ad o
 |[],i,a,o,f,d=>by simp[JB]at d
 |x::g,i,a,o,f,d=>by
  simp only[JB]at d;split at d
  .rename_i n k;simp only[ar,bM]at d;obtain⟨rfl,rfl,rfl⟩:=d;exact⟨k,aO _,az⟩
  .let ⟨l,h2,m⟩:=adT d;refine⟨l,O,?_⟩;rw[(O:a-i=(a-(i+1))+1)];simpa using m
def apa{o}{d k}{x}(a:OM o=ad (d,k,x)):o.dst=ad d/\∃f,o.op= .call ⟨.value<|.tmp k,⟨x.map adP⟩,f⟩:=by
 unfold OM at a;split at a
 .rename_i m n args f l g;split at a
  .rename_i xs i;simp only[ar,bM]at a;obtain⟨rfl,rfl,rfl⟩:=a;exact⟨l,f,by rw[g,<-adO i]⟩
  .cases a
 .cases a
def ON{dep n}{t:Tr}{m:Mem}{a}{v}(d:a<n)(f:jA (de dep a) t=ad v):(bh dep n t m).kn (.s a)=ad (.v v):=by rw[Fo];simp[d,f]
variable{F:fj}{dep n oH n0:Y}{t0:Tr}{a0:Act}{ds0:V JA}{kt l:Y}{fnid:kd}{p:V Y}{D:Y}{oa bd:g7}{mk:V Y}
def apb(kN:P.follows .mixedOrders=ae)(di:cq P tt=ae)(L:∀f vs M mZ bf,dM f vs M=ad (mZ,bf)->r P f mZ bf) fu(x:n0<=4^oH)(hp:∀qx∈p,qx<n0)(JC:ow oa=ae)(JD:ow bd=ae)(hl:F.w0.heap.size<=l)(uf:l∉mk)
 {v}{M m}{k U}{pd}(s:OK P tt dM fu oH n0 t0 p oa bd v M k=ad (pd,m,U))
  (An:dT oH n0 t0 k) (jL:fv M k) {g}{W}(hh:bx {F with n:=n0,ds:=ds0,rd:=none} (·<k) (bh oH n0 t0 M.flatten).kn g W a0) {u}(hv:fw g v u) (Bo:∀id∈cR v,id<k)
  (apc:W.heap[l]? =ad (.loop<|qZ fnid a0.tmps p oa bd D none)) (oQ:∀D∈mk,W.heap[D]? =ad (.deferred<|ad []))
  {yb:Ending->cQ->Prop} (hR:∀g' W',k<=U->fv m U->bx {F with n:=n0,ds:=ds0,rd:=none} (·<U) (bh oH n0 t0 m.flatten).kn g' W' a0->gC (·<k) g g'->W'.heap[l]? =ad (.loop<|qZ fnid a0.tmps p oa bd D pd)->(∀D∈mk,W'.heap[D]? =ad (.deferred<|ad []))->yb (.returned<|.bool pd.isNone) W'):
  RoundIn (gn none) 0 P l fnid (sj p u a0.tmps) oa bd W yb:=by
 unfold OK at s
 split at s
 .rename_i t1 y k1 UH h1;obtain⟨CK,h1⟩:=FT h1 az;have t:∀(e:Ex) A d,FP y=ae->dL (iS P tt dM fu oH n0 0 bd t1 y k1 []) e A m U d->(∀X:cQ,X.heap[l]? =ad (.loop {qZ fnid a0.tmps p oa bd D none with state:= .busy})->∀C K,(Instr.endRound l pd).run P X= .ok K C->yb (.returned K) C->∀a5,roundPost P l yb e.Hz a5 X)->
    RoundIn (gn none) 0 P l fnid (sj p u a0.tmps) oa bd W yb:=by
   intro e A d a i Q
   have h0:bx {F with n:=n0,ds:=[],rd:=ad l} (·<k) (bh oH n0 (pS oH p v t0) M.flatten).kn g W {tmps:=sj p u a0.tmps,defers:=[]}:=bx.pS x J (hh.defer [] (ad l)) hp hv Bo
   have b:=FO kN di L fu oH n0 0 oa _ M k [] .dv t1 y k1 UH x (aY _) (dT.pS x An hp Bo) jL h1
   have g2:=FO kN di L fu oH n0 0 bd t1 y k1 [] e A m U d x (aY _) b.1.dT b.1.fv i
   refine roundIn_of_wpIn (F:=gn none) h ?_
   refine wpIn_mono (F:=gn<|ad l) (b.2.xl (F:={F with n:=n0,ds:=[],rd:=ad l}) J (.inr JC) h0<|FQ CK _ _ _) ?_
   rintro e1 a1 W1 ⟨rfl,ga,ha,c,j⟩
   have T:=c.same _ _ apc J
   have w:(qZ fnid a0.tmps p oa bd D none).state= .ready:=rfl
   refine⟨_,run_beginRound T w,?_⟩
   have z:l<W1.heap.size:=(gL.1 T).1
   have BH:=ha.wx<|WX.putObj (.loop {qZ fnid a0.tmps p oa bd D none with state:= .busy}) T J hl
   refine wpIn_mono (F:=gn<|ad l) (g2.2.xl (F:={F with n:=n0,ds:=[],rd:=ad l}) J (.inr JD) BH<|FQ a _ _ _) ?_
   rintro e2 a2 W2 ⟨rfl,gb,hb,E,G⟩
   have B:=E.same _ _ (apd (o:= .loop {qZ fnid a0.tmps p oa bd D none with state:= .busy}) z) J
   have I:=run_endRound (P:=P) pd B
   refine Q W2 B _ _ I ?_ a2
   have N:l<W2.heap.size:=(gL.1 B).1
   have O:gC (·<k) g gb:=⟨j.H.trans G.H,λid S=>(G.γ id<|iI S b.1.le).trans<|j.γ id S⟩
   refine hR gb _ (bm b.1.le g2.1.le) g2.1.fv ((hh.swap hb (bm b.1.le g2.1.le) O).wx<|WX.putObj _ B J hl) O ?_ ?_
   .rw[apd N];rfl
   .intro D' V;have Y:D'≠l:=λe=>uf (e▸V)
    rw[OG Y];refine E.same _ _ ?_ J;rw[OG Y];exact c.same _ _ (oQ D' V) J
  split at s
  .rename_i A Z k2 d i;obtain⟨a,i⟩:=FT i az;simp only[ar,bM]at s;obtain⟨rfl,rfl,rfl⟩:=s;exact t .dv A d a i<|λX _ C K he hr a5=>⟨K,C,he,hr⟩
  .rename_i id A Z k2 d i;obtain⟨a,i⟩:=FT i az;simp only[ar,bM]at s;obtain⟨rfl,rfl,rfl⟩:=s;exact t (.gP id) A d a i<|λX _ C K he hr a5=>⟨K,C,he,hr⟩
  .rename_i A Z k2 d i;obtain⟨a,i⟩:=FT i az;simp only[ar,bM]at s;obtain⟨rfl,rfl,rfl⟩:=s;exact t .ret A d a i<|λX _ C K he hr a5=>⟨K,C,he,hr⟩
  .cases s
 .cases s
end
section
variable{P:bW}{tt:TT}{dM:kd->V AV->Ms->ax (V AV×AV)}
variable{F:fj}{dep n oH n0:Y}{t0:Tr}{a0:Act}{ds0:V JA}{kt l:Y}{fnid:kd}{p:V Y}{D:Y}{oa bd:g7}{mk:V Y}
def ape{rc:ax g7->Loop}:∀d s f,U3 dep n d s=ad f->∀a W,IY F dep n oH n0 t0 a0 ds0 kt l rc mk s a W->a.eval d= .bool f:=by
 intro d s f h a W k;let ⟨g,_,_,_,hh,_⟩:=k;unfold U3 at h;split at h
 .rename_i q o;split at h
  .rename_i u t;cases h;have i:=ls (m:=s.ms.flatten) o t;exact dA hh _ d _ i<|eD _ d
  .cases h
 .cases h
def apf(kN:P.follows .mixedOrders=ae)(U:cq P tt=ae)(M:∀f vs ms mZ bf,dM f vs ms=ad (mZ,bf)->r P f mZ bf) fu(hn:n<=4^dep)(Qa:n0<=4^oH)(hp:∀qx∈p,qx<n0)(JC:ow oa=ae)(JD:ow bd=ae)(hl:F.w0.heap.size<=l)(uf:l∉mk):
  ∀dQ s bf,U2 P tt dM fu dep n kt (Z p) (OK P tt dM fu oH n0 t0 p oa bd) dQ s=bf->bf≠ .no->∀a W,IY F dep n oH n0 t0 a0 ds0 kt l (qZ fnid a0.tmps p oa bd D) mk s a W->
   dQ.wpIn (gn none) 0 P (bf.post<|IY F dep n oH n0 t0 a0 ds0 kt l (qZ fnid a0.tmps p oa bd D) mk) a W:=by
 intro dQ s bf h w a W hI
 unfold U2 at h
 split at h
 .rename_i R A draw;let ⟨g,pR,jL,An,hh,hh0,E,G,Q,oQ⟩:=hI;split at h
  .rename_i t' wH k' lu h1;obtain⟨CK,h1⟩:=FT h1 az;subst h;have I:=FO kN U M fu dep n 0 _ s.t s.ms s.k [] .dv t' wH k' lu hn (aY _) pR jL h1;refine wpIn_mono (F:=gn none) (I.2.xl (F:={F with n:=n,ds:=[],rd:=none}) J (.inl J) hh<|FQ CK _ _ _) ?_;rintro e1 T W1 ⟨rfl,ga,ha,OO,U4⟩;exact⟨J,ga,I.1.dT,I.1.fv,An.le I.1.le,ha,hh0.swap ha I.1.le U4,iI E I.1.le,(U4.γ kt E).trans G,OO.same _ _ Q J,λD hD=>OO.same _ _ (oQ D hD) J⟩
  .split at h
   .split at h
    .rename_i hpd;rw[hpd]at Q;unfold adS at h;split at h
     .rename_i i o d j x hsp;let ⟨hy,_,hoi⟩:=adT hsp;let ⟨apj,kV,b6⟩:=apa hy;have S:A[i]? =ad o:=by simpa using hoi
      have avN:i<A.size:=(gL.1 S).1;split at h
      .rename_i gp gq hgp hgq;split at h
       .rename_i t1 ms1 k1 UH f1 C;obtain⟨CK,C⟩:=adN C az;split at h
        .rename_i JE;simp only[cz,s7,jS]at JE;let ⟨⟨⟨⟨H,dz⟩,hjn⟩,hxn⟩,CL⟩:=JE;have CL:=lL CL;split at h
         .rename_i e v hgj hgx;split at h
          .rename_i lK;have:=lL lK;subst this;split at h
           .rename_i pd UA k2 apo;split at h
            .rename_i t3 ms3 k3 wl3 f3 K;obtain⟨apq,K⟩:=adN K az;subst h;have o4:wG P (tA P tt dM<|iS P tt dM fu):=UP U M<|FO kN U M fu;let ⟨QP,apr,aps,apt⟩:=U1 U o4 hn (ops:=A) (c i A.toList) 0 C hgp (λj o' hj=>by
              rw[DE]at hj;split at hj
              .simpa using hj
              .cases hj) pR jL
             refine wpIn_region ?_;have N:bX A.size=adK 0 (c i A.toList).length++(i::(adK (i+1) (aA (i+1) A.toList).length++[])):=by rw[iD,P6];have e1:(c i A.toList).length=i:=b8;have e2:(aA (i+1) A.toList).length=A.size-(i+1):=az;rw[e1,e2,<-Ki];have:A.size-(i+1)+1=A.size-i:=O;rw[this];have:=List.range'_append (s:=0) (m:=i) (n:=A.size-i) (step:=1);simp only[jn,ff]at this;rw[this];congr 1;omega
             rw[N];refine apt ({F with n:=n,ds:=[],rd:=none}.re W g s.k) J (λ_ _ _=> .inl J) _ _ g W a (hh.re<|FQ CK _ _ _) ?_;intro I W1 T hh1;let ⟨hA,U5,U6⟩:=hh.un hh1;have hC:=hh0.swap hA QP U6;have apv:=An.le QP;have hvv:∀(x:V Y)(v:V AV),(∀y∈x,y<n)->OI dep t1 x=ad v->fw I v (x.map λy=>T.tmps.getD y undef)/\∀R∈cR v,R<k1:=by
              intro x;induction x with
              |nil=>intro v _ h;cases h;exact⟨J,λR L=>by cases L⟩
              |cons y x ih=>
               intro v hb h
               simp only[OI]at h
               split at h
               .rename_i u vs hu vQ;cases h;have hy:=hb y az;let ⟨i1,i2⟩:=ih vs (λz hz=>hb z<|ko _ hz) vQ;refine⟨⟨_,_,J,hA.eY y u<|ON hy hu,i1⟩,λR L=>?_⟩;rcases bg.1 L with h|h
                .exact hA.ak (.s y) (.v u) (ON hy hu) R h
                .exact i2 R h
               .cases h
             let ⟨hv,Bo⟩:=hvv x v hxn hgx;have apx:T.tmps.getD j undef= .func (.yield l) #[] #[]:=by have h1:bu I (.c<|.X e) (T.tmps.getD j undef):=hA.eY j _<|ON hjn hgj;have h2:T.tmps.getD j undef=I.γ e:=h1;rw[h2,U6.γ e E,G]
             show wpOpsIn (gn none) 0 P A _ (i::_) T W1;rw[wpOpsIn_cons];unfold wpOpIn;rw[S];have apy:Region.wanted o (yielded A T.tmps)=ae:=by
              unfold gdY at H;unfold Region.wanted;split at H
              .rename_i hg;rw[hg]
              .rename_i gj want hg;rw[hg];split at H
               .rename_i tg htg;split at H
                .rename_i b xo nQ;have:=hA.eY tg _<|ON (c8 xo) nQ;simp only[DK htg this];simpa using H
                .cases H
               .cases H
             simp only[apy,cj];refine⟨λ_ _=>trivial,?_⟩;have hex:(o.semAt (gn none).round T.eval).run P W1= .ok (.round l fnid (sj p (x.map λy=>T.tmps.getD y undef) a0.tmps) oa bd) W1:=by
              show(execOp T.eval o).run P W1=_;have hy:=run_yield (P:=P) (args:=⟨x.map λy=>T.tmps.getD y undef⟩) (U5.same _ _ Q J) (by show Z (x.map _)=Z p;rw[cy];exact CL);rw[execOp,b6];have e1:T.eval (.tmp j)= .func (.yield l) #[] #[]:=apx;have e2:(⟨x.map adP⟩:Array eI).map T.eval=⟨x.map λy=>T.tmps.getD y undef⟩:=by apply Dy;simp[Act.eval]
              simp only[resolve,e1,e2,Hs,pure_bind,invoke];rw[<-ao',Array.empty_append];exact hy
             rw[hex];simp only[Oper.uponIn_round];refine⟨λhh=>Kg,?_⟩;refine apb (mk:=mk) (D:=D) kN U M fu Qa hp JC JD hl uf apo apv aps hC hv Bo (U5.same _ _ Q J) (λD hD=>U5.same _ _ (oQ D hD) J) ?_;intro g2 W2 adX apA hC2 hG2 apB apC;simp only;have hA2:=(hA.swap hC2 adX hG2).adI (dep:=dep) (n:=n) hn J dz (v:= .c<|.B pd.isNone) (u:= .bool pd.isNone) J (λR L=>by cases L);have apD:dT dep n (jK (de dep d) (.c<|.B pd.isNone) t1) k2:=(apr.le adX).set hn dz (λR L=>by cases L);let ⟨apE,apF,apG,apH⟩:=U1 U o4 hn (ops:=A) (aA (i+1) A.toList) (i+1) K hgq (λj o' hj=>by rw[tT]at hj;simpa using hj) apD apA;rw[apj];refine apH ({F with n:=n,ds:=[],rd:=none}.re W2 g2 k2) J (λ_ _ _=> .inl J) _ _ g2 W2 _ (hA2.re<|FQ apq _ _ _) ?_;intro g3 W3 a3 hh3;let ⟨hA3,hK3,hG3⟩:=hA2.un hh3;have K5:s.k<=k3:=O;refine⟨J,g3,apF,apG,An.le K5,hA3,hC2.swap hA3 apE hG3,iI E K5,?_,hK3.same _ _ apB J,λD hD=>hK3.same _ _ (apC D hD) J⟩;rw[hG3.γ e O,hG2.γ e O,U6.γ e E,G]
            .exact absurd h.symm w
           .exact absurd h.symm w
          .exact absurd h.symm w
         .exact absurd h.symm w
        .exact absurd h.symm w
       .exact absurd h.symm w
      .exact absurd h.symm w
     .exact absurd h.symm w
    .exact absurd h.symm w
   .exact absurd h.symm w
 .exact absurd h.symm w
end
def q5(a:Y):JA:={target:= .collected a,args:= #[]}
structure SR where
 t:Tr
 ms:Ms
 k:Y
noncomputable def OP(s:SR)(a:SY):iT SR:=match a.pd with
 |none=> .dv ⟨s.t,a.ms,a.k⟩
 |some (.exit id)=> .gP id ⟨s.t,a.ms,a.k⟩
 |some .ret=> .ret ⟨s.t,a.ms,a.k⟩
 |_=> .no
noncomputable def ad4(P:bW)(i:TT)(d:kd->V AV->Ms->ax (V AV×AV))(l o dep n:Y)(p:V Y)(f u:g7)(m:V AV)(a:Func)(v:g7)(s:SR):iT SR:=
 match a.name != "runtime.NumGoroutine" &&dP (Z m+1) a.ntmps&&dP a.ntmps 4096&&a.results.isEmpty with
 |true=>(match gen (U2 P i d l (fb a.ntmps) a.ntmps s.k (Z p)<|OK P i d l dep n s.t p f u) (U3 (fb a.ntmps) a.ntmps) o v ⟨nB (fb a.ntmps) (.c (.X s.k)::m) 0 .e,s.ms,s.k+1,none⟩with
  | .dv g=>OP s g
  | .ret g=>OP s g
  |_=> .no)
 |false=> .no
noncomputable def ad5(P:bW)(i:TT)(d:kd->V AV->Ms->ax (V AV×AV))(k l dep n:Y)(p:V Y)(g m:g7)(o:Y)(s:SR):iT SR:=
 match bD o s.ms with
 |some (.hY f [] a)=>(match s0 a with
  |some ws=>(match P.funcs[f]? with
   |some fn=>(match fn.body with
    |some cb=>ad4 P i d k l dep n p g m ws fn cb s
    |none=> .no)
   |none=> .no)
  |none=> .no)
 |_=> .no
noncomputable def OQ(P:bW)(i:TT)(a:kd->V AV->Ms->ax (V AV×AV))(l m dep n:Y)(o:g7)(s:SR):iT SR:=match o with
 | .region id ops draw=>(match FR s.ms (iS P i a l dep n 0 (.region id ops draw) s.t s.ms s.k [])with
  | .dv u f v _=> .dv ⟨u,f,v⟩
  |_=> .no)
 | .rangeFunc g ⟨p⟩ d bd=>(match p.all (λq=>dy q n)&&ow d&&ow bd with
  |true=>(match iR dep n g with
   |some x=>(match jZ s.t x with
    |some (.c<|.X id)=>ad5 P i a l m dep n p d bd id s
    |_=> .no)
   |none=> .no)
  |false=> .no)
 |_=> .no
noncomputable def OR(dep n:Y)(a:eI)(s:SR):ax Bool:=match iR dep n a with
 |some p=>(match jZ s.t p with
  |some (.c<|.B b)=>ad b
  |_=>none)
 |none=>none
def IR(d:fj)(dep n:Y)(s:SR)(a:Act)(W:cQ):Prop:=
 ∃(g:Gh)(mk:V Y),dT dep n s.t s.k/\fv s.ms s.k/\bx {d with n:=n,ds:=mk.map q5,rd:=none} (·<s.k) (bh dep n s.t s.ms.flatten).kn g W a/\
  (∀D∈mk,W.heap[D]? =ad (.deferred<|ad [])/\d.w0.heap.size<=D)/\mk.Nodup
section
variable{P:bW}{tt:TT}{dM:kd->V AV->Ms->ax (V AV×AV)}{F:fj}
def bx.args{U dep n k d o}{t}{m:Mem}{g}{W}{a}{ds}{rd}(i:bx {F with n:=U,ds:=ds,rd:=rd} (·<k) (bh dep n t m).kn g W a){vs}{p}(T:fw g vs p)(L:∀A∈cR vs,A<k)(hle:Z vs<=o)(JF:o<=4^d):
  bx {F with n:=o,ds:=[],rd:=none} (·<k) (bh d o (nB d vs 0 .e) m).kn g W {tmps:=p.toArray++s6 (o-p.toArray.size) undef,defers:=[]}:=by
 have X:=yJ T
 have B:∀j v,(bh d o (nB d vs 0 .e) m).kn (.s j)=ad (.v v)->S j (dG 0 vs)=ad v:=by
  intro j v f;rw[Fo]at f;simp only at f;by_cases C:j<o
  .rw[b C,CJ _ vs 0 .e j O O,Aa]at f;cases hl:S j (dG 0 vs)with
   |none=>rw[hl]at f;simp at f
   |some x=>rw[hl]at f;simp only[vG,ar,Info.v.injEq]at f;rw[f]
  .rw[w C]at f;simp at f
 refine⟨b8,J,λj v f=>?_,i.cX,i.inj,λK x M A l=>?_,i.ew,i.sub,i.below,i.le,i.fresh,i.gK⟩
 .let ⟨_,u,hu,Q,_⟩:=nP vs p 0 T j v<|B j v f;have H:p[j]? =ad u:=w8;have hZ:j<Z p:=(sQ.1 H).1;rw[nM,yK Bc];simpa[H]using Q
 .cases K with
  |m j=>exact i.ak (.m j) x M A l
  |s j=>
   cases x with
   |b _=>simp[bh,St.kn]at M
   |v y=>exact L A<|(Al vs 0 j y<|B j y M).2 A l
def apJ{dep n}:∀d s f,OR dep n d s=ad f->∀a W,IR F dep n s a W->a.eval d= .bool f:=by
 intro d s f h a W k;let ⟨g,mk,_,_,hh,_⟩:=k;unfold OR at h;split at h
 .rename_i q l;split at h
  .rename_i p o;cases h;have i:=ls (m:=s.ms.flatten) l o;exact dA hh _ d _ i<|eD _ d
  .cases h
 .cases h
def apK(kN:P.follows .mixedOrders=ae)(di:cq P tt=ae)(Am:∀f vs ms mZ U,dM f vs ms=ad (mZ,U)->r P f mZ U) fu fy{dep n}(hn:n<=4^dep):
  ∀dQ s U,OQ P tt dM fu fy dep n dQ s=U->U≠ .no->∀a W,IR F dep n s a W->dQ.wpIn (gn none) 0 P (U.post<|IR F dep n) a W:=by
 intro dQ s U d Q a W hI
 unfold OQ at d
 split at d
 .rename_i id ops draw;let ⟨g,mk,pR,jL,hh,H,lD⟩:=hI;split at d
  .rename_i t' wH k' lu Y;obtain⟨CK,Y⟩:=FT Y az;subst d;have g1:=FO kN di Am fu dep n 0 _ s.t s.ms s.k [] .dv t' wH k' lu hn (aY _) pR jL Y;refine wpIn_mono (F:=gn none) (g1.2.xl (F:={F with n:=n,ds:=mk.map q5,rd:=none}) J (.inl J) hh<|FQ CK _ _ _) ?_;rintro e1 a1 q ⟨rfl,ga,ha,OO,U4⟩;exact⟨J,ga,mk,g1.1.dT,g1.1.fv,ha,λD T=>⟨OO.same _ _ (H D T).1 J,(H D T).2⟩,lD⟩
  .exact absurd d.symm Q
 .rename_i U7 p y bd;let ⟨g,mk,pR,jL,hh,H,lD⟩:=hI;split at d
  .rename_i JE;simp only[cz,s7,jS]at JE;let ⟨⟨hp,JC⟩,JD⟩:=JE;split at d
   .rename_i pg hpg;split at d
    .rename_i id fe;unfold ad5 at d;split at d
     .rename_i f Bf pn;split at d
      .rename_i ws KI;split at d
       .rename_i fn OS;split at d
        .rename_i cb Dv;unfold ad4 at d;split at d
         .rename_i z;simp only[cz]at z;let ⟨⟨⟨tY,E⟩,kM⟩,QV⟩:=z;have E:Z ws+1<=fn.ntmps:=c8 E;have JF:fn.ntmps<=4^fb fn.ntmps:=UN<|c8 kM;have apM:oW P f=ae:=by simp[oW,OS,Dv,tY]
          have Jz:a.eval U7=g.γ id:=dA hh _ U7 _ (ls (m:=s.ms.flatten) hpg fe)<|eD _ U7;have wV:(bh dep n s.t s.ms.flatten).kn (.m id)=ad (.b<|.hY f [] Bf):=by show(S id s.ms.flatten).map Info.b=_;rw[jB,pn];rfl
          let ⟨us0,wv,hγ,G,hwv⟩:=hh.cX id _ wV;have G:us0=[]:=G;subst G;have P7:=Lt KI hwv;have ad7:∀j∈cR ws,j<s.k:=λj A=>hh.ak (.m id) _ wV j<|gD _<|D9 KI j A
          refine wpIn_rangeFunc (F:=gn none)<|λo _=>?_;obtain⟨q,I⟩:∃q,(W.alloc<|.deferred<|ad []).alloc (.loop {state:= .ready,pending:=none,fn:=o,tmps:=a.tmps,params:=⟨p⟩,assign:=y,body:=bd,defers:=W.heap.size})=q:=⟨_,J⟩;refine⟨W.heap.size+1,[q5 W.heap.size],q,{target:= .fn (.func f) wv.toArray,args:= #[.func (.yield<|W.heap.size+1) #[] #[]]},q,f,#[.func (.yield<|W.heap.size+1) #[] #[]]++wv.toArray,q,?_,?_,λ_ _=>trivial,Q7 apM,λhh=>Kg,?_⟩
          .rw[<-I];exact run_enterLoop_outer o a.tmps ⟨p⟩ y bd
          .simp only[resolve,Jz,hγ,Hs];simp[Act.eval]
          .have hx1:WX F.w0.heap.size W q:=by rw[<-I];exact(WX.alloc _ _ _).trans (WX.alloc _ _ _)
           have hB:F.w0.heap.size<=W.heap.size:=hh.below.size;have hD1:q.heap[W.heap.size]? =ad (.deferred<|ad []):=by rw[<-I];exact(Below.heap_alloc _ _ _ az).trans<|apQ W _
           have hL1:q.heap[W.heap.size+1]? =ad (.loop<|qZ o a.tmps p y bd W.heap.size none):=by rw[<-I];have:=apQ (w:=W.alloc<|.deferred<|ad [])<|.loop {state:= .ready,pending:=none,fn:=o,tmps:=a.tmps,params:=⟨p⟩,assign:=y,body:=bd,defers:=W.heap.size};rwa[World.size_alloc]at this
           have ad9:∀D∈W.heap.size::mk,q.heap[D]? =ad (.deferred<|ad []):=by
            intro D T;rcases b9.1 T with rfl|T
            .exact hD1
            .have Y:=(H D T).1;rw[<-I];exact(Below.heap_alloc _ _ _<|by have:=(gL.1 Y).1;simp;omega).trans<|(Below.heap_alloc _ _ _ (gL.1 Y).1).trans Y
           have uf:W.heap.size+1∉W.heap.size::mk:=by intro hc;have:=ad9 _ hc;rw[hL1]at this;cases this
           have hC1:=(hh.ao6<|.func (.yield<|W.heap.size+1) #[] #[]).wx hx1;have aea:(g.new s.k<|.func (.yield<|W.heap.size+1) #[] #[]).γ s.k= .func (.yield<|W.heap.size+1) #[] #[]:=by simp[Gh.new]
           have Ao:gC (·<s.k) g (g.new s.k<|.func (.yield<|W.heap.size+1) #[] #[]):=⟨cL.refl _,λj A=>by have:j≠s.k:=Nat.ne_of_lt A;simp[Gh.new,this]⟩;have Rw:fw (g.new s.k<|.func (.yield<|W.heap.size+1) #[] #[]) (.c (.X s.k)::ws) (.func (.yield<|W.heap.size+1) #[] #[]::wv):=by
            refine⟨_,_,J,aea.symm,?_⟩;have key:∀{xs:V AV}{vv:V aV},fw g xs vv->(∀j∈cR xs,j<s.k)->fw (g.new s.k<|.func (.yield<|W.heap.size+1) #[] #[]) xs vv:=by
             intro xs;induction xs with
             |nil=>intro vv d _;exact d
             |cons x xs ih=>
              rintro vv ⟨u,U,rfl,Y,h2⟩ hb
              exact⟨u,U,J,bu.mono Ao (λj A=>hb j<|eH _ A) Y,ih h2<|λj A=>hb j<|gD _ A⟩
            exact key P7 ad7
           have aeb:∀j∈cR (.c (.X s.k)::ws),j<s.k+1:=by
            intro j A;simp only[cR,bg]at A;rcases A with A|A
            .have:j=s.k:=by simpa[AV.ak,C.ak]using A
             omega
            .exact Oy<|ad7 j A
           have hA1:=hC1.args Rw aeb (by simpa using E) JF;have apS:dT (fb fn.ntmps) fn.ntmps (nB (fb fn.ntmps) (.c (.X s.k)::ws) 0 .e) (s.k+1):=by
            intro j v A hv i hi;rw[CJ _ _ 0 .e j b8 O,Aa]at hv;split at hv
            .rename_i u hu;cases hv;exact aeb i<|(Al _ 0 j v hu).2 i hi
            .cases hv
           have vV:IY F (fb fn.ntmps) fn.ntmps dep n s.t a (mk.map q5) s.k (W.heap.size+1) (qZ o a.tmps p y bd W.heap.size) (W.heap.size::mk) ⟨nB (fb fn.ntmps) (.c (.X s.k)::ws) 0 .e,s.ms,s.k+1,none⟩ {tmps:=(.func (.yield<|W.heap.size+1) #[] #[]::wv).toArray++s6 (fn.ntmps-(.func (.yield<|W.heap.size+1) #[] #[]::wv).toArray.size) undef,defers:=[]} q:=
            ⟨_,apS,jL.le<|Nat.le_succ _,pR.le<|Nat.le_succ _,hA1,hC1,dK _,aea,hL1,ad9⟩
           have aec:(#[.func (.yield<|W.heap.size+1) #[] #[]]++wv.toArray:Array aV)=(.func (.yield<|W.heap.size+1) #[] #[]::wv).toArray:=az;rw[aec];refine callsIn_of_wp (F:=gn none) OS Dv h ?_;have aed:=adJ (P:=P) (Fe:=gn none) (apf (F:=F) (t0:=s.t) (mk:=W.heap.size::mk) (ds0:=mk.map q5) (a0:=a) (kt:=s.k) (l:=W.heap.size+1) (fnid:=o) (D:=W.heap.size) kN di Am fu JF hn hp JC JD (by omega:F.w0.heap.size<=W.heap.size+1) uf) ape fy cb;have Ei:∀(K:SY)(a':Act)(L:cQ),OP s K=U->IY F (fb fn.ntmps) fn.ntmps dep n s.t a (mk.map q5) s.k (W.heap.size+1) (qZ o a.tmps p y bd W.heap.size) (W.heap.size::mk) K a' L->
             a'.defers=[]/\∃v,(results fn a'.tmps).run P L= .ok v L/\rangePost (gn none) 0 P (W.heap.size+1) (U.post<|IR F dep n) {a with defers:=[q5 W.heap.size]++a.defers} (.returned v) L:=by
            intro K a' L hf N
            let ⟨g',avQ,apT,apU,hA',hC',avR,avS,B,apX⟩:=N
            refine⟨hA'.defers,.tuple #[],?_,?_⟩
            .have hre:fn.results= #[]:=by simpa using QV
             simp[results,hre]
            .have hZ:W.heap.size+1<L.heap.size:=(gL.1 B).1;refine⟨K.pd,_,run_endLoop (P:=P) B (by cases K.pd<;>simp[qZ]),?_⟩;have hw4:WX F.w0.heap.size L (L.putObj (W.heap.size+1)<|.loop {qZ o a.tmps p y bd W.heap.size K.pd with state:= .exhausted}):=WX.putObj _ B J O;have M:IR F dep n ⟨s.t,K.ms,K.k⟩ {a with defers:=[q5 W.heap.size]++a.defers} (L.putObj (W.heap.size+1)<|.loop {qZ o a.tmps p y bd W.heap.size K.pd with state:= .exhausted}):=by
              refine⟨g',W.heap.size::mk,apU,apT,?_,λD T=>⟨?_,?_⟩,?_⟩
              .have h5:=((hC'.wx hw4).defer (q5 W.heap.size::mk.map q5) none);have h6:a.defers=mk.map q5:=hh.defers;rw[h6];exact h5
              .have gM:D≠W.heap.size+1:=λe=>uf (e▸T)
               rw[OG gM];exact apX D T
              .rcases b9.1 T with rfl|T
               .exact hB
               .exact(H D T).2
              .refine AK.2 ⟨λhc=>?_,lD⟩;have:=(gL.1 (H _ hc).1).1;omega
             unfold OP at hf;split at hf
             .rename_i R;rw[R]at M⊢;subst hf;exact⟨J,M⟩
             .rename_i rH R;rw[R]at M⊢;subst hf;exact wpIn_exit ⟨J,M⟩
             .rename_i R;rw[R]at M⊢;subst hf;exact wpIn_ret ⟨J,M⟩
             .exact absurd hf.symm Q
           split at d
           .rename_i K hg;refine wpIn_mono (F:=gn none) (aed _ _ hg az _ _ vV) ?_;rintro e a' L ⟨rfl,N⟩;exact Ei K a' L d N
           .rename_i K hg;refine wpIn_mono (F:=gn none) (aed _ _ hg az _ _ vV) ?_;rintro e a' L ⟨rfl,N⟩;exact Ei K a' L d N
           .exact absurd d.symm Q
         .exact absurd d.symm Q
        .exact absurd d.symm Q
       .exact absurd d.symm Q
      .exact absurd d.symm Q
     .exact absurd d.symm Q
    .exact absurd d.symm Q
   .exact absurd d.symm Q
  .exact absurd d.symm Q
 .exact absurd d.symm Q
end
noncomputable def aee(g:TT)(a:Func)(dep:Y)(i:AV):iT SR->Bool
 | .dv s=>(match FI g dep a.ntmps s.t s.ms a.results.toList with
  |some d=>CE (λf=>S f s.ms.flatten) d i
  |none=>ah)
 | .ret s=>(match FI g dep a.ntmps s.t s.ms a.results.toList with
  |some d=>CE (λf=>S f s.ms.flatten) d i
  |none=>ah)
 |_=>ah
noncomputable def U9(P:bW)(d:TT)(a:kd->V AV->Ms->ax (V AV×AV))(g i k:Y)(f:kd)(vs:V AV)(l:AV):Bool:=match P.funcs[f]? with
 |some fn=>(match fn.body with
  |some c=>(match fn.name != "runtime.NumGoroutine" &&dP (Z vs) fn.ntmps&&dP fn.ntmps 4096 with
   |true=>aee d fn (fb fn.ntmps) l<|gen (OQ P d a g i (fb fn.ntmps) fn.ntmps) (OR (fb fn.ntmps) fn.ntmps) k c ⟨nB (fb fn.ntmps) vs 0 .e,[[]],0⟩
   |false=>ah)
  |none=>ah)
 |none=>ah
section
variable{P:bW}{tt:TT}{dM:kd->V AV->Ms->ax (V AV×AV)}
def aef{p:Func}{a:Array aV}{s:Ending->cQ->Prop}{B:Y}:∀(mk:V Y)(W:cQ),(∀f∈mk,W.heap[f]? =ad (.deferred<|ad [])/\B<=f)->mk.Nodup->
  (∀g,WX B W g->∃v,(results p a).run P g= .ok v g/\s (.returned v) g)->LeavesInM (gn none) 0 P p a s (mk.map q5) .returning W
 |[],W,_,_,k=>k W<|WX.refl _ _
 |f::mk,W,hm,i,k=>by
  have l:=hm f az;have t:=WX.putObj (B:=B) (.deferred none) l.1 J l.2;refine⟨az,.inl ⟨f,_,J,run_takeDeferred l.1,?_⟩⟩;refine aef mk _ (λm d=>⟨?_,(hm m<|by simp[d]).2⟩) (AK.1 i).2<|λg n=>k g<|t.trans n;have o:m≠f:=λe=>(AK.1 i).1<|e▸d
  rw[OG o];exact(hm m<|by simp[d]).1
def aeg(kN:P.follows .mixedOrders=ae)(di:cq P tt=ae)(Am:∀f vs ms mZ T,dM f vs ms=ad (mZ,T)->r P f mZ T) fu fy fr{f}{a}{dQ}(hf:P.funcs[f]? =ad a)(hb:a.body=ad dQ)(tY:(a.name != "runtime.NumGoroutine")=ae){vs}(hle:Z vs<=a.ntmps)(kM:a.ntmps<=4096)
  {s:SR} {rr:iT SR} (jc:gen (OQ P tt dM fu fy (fb a.ntmps) a.ntmps) (OR (fb a.ntmps) a.ntmps) fr dQ ⟨nB (fb a.ntmps) vs 0 .e,[[]],0⟩=rr) (hrr:rr= .dv s\/rr= .ret s) {T}(hr:FI tt (fb a.ntmps) a.ntmps s.t s.ms a.results.toList=ad T) (hm:cR vs=[]):CX P f vs [] 0 T s.ms.flatten s.k:=by
 refine⟨Bb,aY _,?_⟩
 intro F g W A hn mc L
 have hn4:a.ntmps<=4^fb a.ntmps:=UN kM
 refine callsIn_wide.1<|callsIn_of_wp_marks (n:=0) (F:=gn none) hf hb h ?_
 have hds:F.ds=[]:=L.defers.symm
 have X:(A.toArray++s6 (a.ntmps-A.toArray.size) undef).size=a.ntmps:=b8
 have q:∀j v,(bh (fb a.ntmps) a.ntmps (nB (fb a.ntmps) vs 0 .e) []).kn (.s j)=ad (.v v)->S j (dG 0 vs)=ad v:=by
  intro j v l;rw[Fo]at l;simp only at l;by_cases z:j<a.ntmps
  .rw[b z,CJ _ vs 0 .e j O O,Aa]at l;cases hl:S j (dG 0 vs)with
   |none=>rw[hl]at l;simp at l
   |some x=>rw[hl]at l;simp only[vG,ar,Info.v.injEq]at l;rw[l]
  .rw[w z]at l;simp at l
 have h0:bx {F with n:=a.ntmps,ds:=[].map q5,rd:=none} (·<0) (bh (fb a.ntmps) a.ntmps (nB (fb a.ntmps) vs 0 .e) ([[]]:Ms).flatten).kn g W {tmps:=A.toArray++s6 (a.ntmps-A.toArray.size) undef,defers:=[]}:=by
  refine⟨X,J,λj v l=>?_,λd U hb=>?_,λd E U b' kk G=>?_,λM x i d o=>?_,λd x i=>?_,L.sub,L.below,L.le,L.fresh,L.gK⟩
  .have hl:=q j v l;have G:=L.eY j v A';have hZ:=(Al vs 0 j v hl).1;have:(A.toArray++s6 (a.ntmps-A.toArray.size) undef).getD j undef=A.toArray.getD j undef:=by rw[nM,nM,yK b8]
   rw[this];exact G
  .simp[bh,St.kn,S]at hb
  .simp[bh,St.kn,S]at G
  .cases M with
   |m j=>simp[bh,St.kn,S]at i
   |s j=>
    cases x with
    |b _=>simp[bh,St.kn]at i
    |v y=>
     have:=(Al vs 0 j y<|q j y i).2 d o
     rw[hm]at this
     cases this
  .simp[bh,St.kn,S]at i
 have I:dT (fb a.ntmps) a.ntmps (nB (fb a.ntmps) vs 0 .e) 0:=by
  intro j v l hv d o;rw[CJ _ vs 0 .e j O O,Aa]at hv;split at hv
  .rename_i u hu;cases hv;have:=(Al vs 0 j v hu).2 d o;rw[hm]at this;cases this
  .cases hv
 have vV:IR F (fb a.ntmps) a.ntmps ⟨nB (fb a.ntmps) vs 0 .e,[[]],0⟩ {tmps:=A.toArray++s6 (a.ntmps-A.toArray.size) undef,defers:=[]} W:=
  ⟨g,[],I,λd U hb=>(by simp[bD,mX]at hb),h0,λD hD=>(by cases hD),List.nodup_nil⟩
 have H:∀(K:Act)(C:cQ),IR F (fb a.ntmps) a.ntmps s K C->LeavesInM (gn none) 0 P a K.tmps (λe C=>∃v g',e= .returned v/\bx {F with n:=1} (·<s.k) (St.kn ⟨[(0,T)],s.ms.flatten,0,[]⟩) g' C (nl [v])) K.defers .returning C:=by
  intro K C N;let ⟨g',mk,pR,jL,h',oQ,lD⟩:=N;have hd:K.defers=mk.map q5:=h'.defers;rw[hd];refine aef (B:=F.w0.heap.size) mk C oQ lD ?_;intro W2 i;have p:=h'.wx i;have R:=adu hr;let ⟨u,hu,V⟩:=Ba (P:=P) (tt:=tt) (st:=bh (fb a.ntmps) a.ntmps s.t s.ms.flatten) di p (fn:=a) (rs:=a.results.toList) az R;have y5:=YI (tt:=tt) p R;refine⟨u,hu,u,g',J,⟨J,hds.symm,?_,?_,?_,?_,?_,p.sub,p.below,p.le,p.fresh,p.gK⟩⟩
  .intro t x i;simp only[St.kn,S,cG]at i;let ⟨y,Q,he⟩:=i;cases he;split at Q
   .rename_i e;subst e;cases Q;simpa[nl]using V
   .cases Q
  .intro d U hb;exact p.cX d U hb
  .intro d E U b' kk hb l6 G h3;exact p.inj d E U b' kk hb l6 G h3
  .intro M x i d o;cases M with
   |s t=>
    simp only[St.kn,S,cG]at i
    let ⟨y,Q,he⟩:=i
    subst he
    split at Q
    .cases Q;exact y5 d o
    .cases Q
   |m j=>exact p.ak (.m j) x i d o
  .intro d x i;exact p.ew d x i
 have Y:=adJ (P:=P) (Fe:=gn none) (apK (F:=F) kN di Am fu fy hn4) apJ fr dQ _ rr jc (by rcases hrr with e|e<;>rw[e]<;>simp) _ W vV
 refine wpIn_mono (F:=gn none) Y ?_
 intro e K C hp
 rcases hrr with e1|e1
 .rw[e1]at hp;obtain⟨rfl,N⟩:=hp;exact H K C N
 .rw[e1]at hp;obtain⟨rfl,N⟩:=hp;exact H K C N
def ap1(m:P.follows .mixedOrders=ae)(n:cq P tt=ae)(i:∀f vs L o t,dM f vs L=ad (o,t)->r P f o t) v x y{f}{vs}{A}
  (a:U9 P tt dM v x y f vs A=ae) (u:cR vs=[]) (B:A.ak=[]):r P f vs A:=by
 unfold U9 at a
 split at a
 .rename_i K C;split at a
  .rename_i c H;split at a
   .rename_i k;simp only[cz]at k;let ⟨⟨d,hlen⟩,p⟩:=k;unfold aee at a;split at a
    .rename_i s g;split at a
     .rename_i t l;exact UR (aeg m n i v x y C H d (c8 hlen) (c8 p) g (.inl J) l u) u B a
     .cases a
    .rename_i s g;split at a
     .rename_i t l;exact UR (aeg m n i v x y C H d (c8 hlen) (c8 p) g (.inr J) l u) u B a
     .cases a
    .cases a
   .cases a
  .cases a
 .cases a
end
section
variable{P:bW}{tt:TT}
def aei{n}{a}{m}{y i}{o}{A}{B p:St}{ks}{k}{Q:St->Prop}{u}{v}
  (hs:a[i]? =ad o->vo P n a i u v (rj (λi=>1000000*y+1000*i) i)) (H:∀kx∈u,B.kn kx.1=ad kx.2) (s:p.kn=bs B.kn v) (L:∀x∈dI u,x∈k.1) (M:∀x∈fW v,x∈k.2) (dj:RG P n a m y (i+1) A p (ks++[k]) Q):RG P n a m y i (o::A) B ks Q:=by
 intro d
 have c:a[i]? =ad o:=by have:=be (λl=>l[0]?) d;simpa[tT]using this
 have f:aA (i+1) a.toList=A:=by rw[<-qp,d];rfl
 have C:=hs c
 let ⟨ds,K,hl,e,h2,q,r,T,w,z⟩:=dj f
 refine⟨(u,v)::ds,K,by simp[hl],?_,?_,?_,r,T,?_,z⟩
 .intro j hj;cases j with
  |zero=>simpa using C
  |succ j=>
   have:=e j ot
   rw[(O:i+(j+1)=i+1+j)]
   simpa using this
 .intro j hj kx g;cases j with
  |zero=>simp only[vu]at g;simpa[oV]using H kx g
  |succ j=>
   simp only[AU]at g
   have:=h2 j ot kx g
   rw[s]at this
   simpa[oV]using this
 .rw[q,s];simp[oV]
 .intro D;let ⟨U,⟨W,X⟩,t⟩:=w D;refine⟨k::U,⟨by simp[W],λj hj b=>?_⟩,by rwa[l7,List.singleton_append]at t⟩;cases j with
  |zero=>exact⟨L,M⟩
  |succ j=>simpa using X j ot (by simpa using b)
end
def ap2 n:(mm n).Pairwise (λx y=>bZ x.testBit n<bZ y.testBit n\/(bZ x.testBit n=bZ y.testBit n/\x<y)):=by
 have one:∀s,(uR n s).Pairwise (λx y=>bZ x.testBit n<bZ y.testBit n\/(bZ x.testBit n=bZ y.testBit n/\x<y)):=λs=>by refine NQ ?_ (List.Pairwise.filter _ (Ke (n:=2^n)):(uR n s).Pairwise (·<·));intro x y a d g;simp only[uR,oP,beq_iff_eq]at a d;omega
 have f:∀k,((bX k).flatMap λs=>uR n<|s+1).Pairwise (λx y=>bZ x.testBit n<bZ y.testBit n\/(bZ x.testBit n=bZ y.testBit n/\x<y)):=by
  intro k;induction k with
  |zero=>exact .nil
  |succ k i=>
   rw[yx,D5]
   refine xZ.2 ⟨i,?_,λx a y d=>?_⟩
   .simp only[lG,N7,iD];exact one<|k+1
   .simp only[jb,l3,lG,N7,iD,uR,oP,beq_iff_eq]at a d;let ⟨s,l,h2,m⟩:=a;left;omega
 exact f _
section
variable{P:bW}{tt:TT}
def ap3{n}{p}{a}{l i d}{f}{first g}{U}{pos}{A}{H}{u}{mem}{v}{y}{L}{Q:St->Prop}{M T}
  (W:sZ ⟨u,mem,v,y⟩ first.toList=ad M) (hc:sZ ⟨u,mem,v,y⟩ g.toList=ad T)
  (o:∀k,RG P n p a l (i+1) H ⟨(d,.c<|.X<|1000000*l+1000*i)::u,(1000000*l+1000*i,.hY f M T)::mem,v,y⟩ (L++[k]) Q) (B:dy d n=ae:=by rfl):
  RG P n p a l i (⟨ad d,.makeFunc (.func f) first g,U,pos,A,none⟩::H) ⟨u,mem,v,y⟩ L Q:=
 aei (k:=(_,_)) (λK=>(X6 K J J (c8 B) J W hc<|1000000*l+1000*i).Kh ⟨aO _,by show _<1000000*l+1000*(i+1);omega⟩) (λkx C=>by
  let ⟨x,_,o⟩:=jb.1 C;exact eD _ x kx o) (by
   funext key;cases key with
   |s t=>
    by_cases e:d=t
    .subst e;simp[St.kn,S,bs,aE]
    .simp[St.kn,S,bs,aE,e]
   |m j=>
    by_cases e:1000000*l+1000*i=j
    .subst e;simp[St.kn,S,bs,aE]
    .simp[St.kn,S,bs,aE,e]) (λ_ o=>o) (λ_ o=>o) (o _)
def ap4{m}{n o:Ending->cQ->Prop}(i:∀d g,n d g->o d g){d}{a}{g}(f:bodyPost P m n d a g):bodyPost P m o d a g:=by
 cases d with
 |normal=>let ⟨k,v,h2,l⟩:=f;exact⟨k,v,h2,i _ _ l⟩
 |ret=>let ⟨k,v,h2,l⟩:=f;exact⟨k,v,h2,i _ _ l⟩
 |panic c=>exact⟨f.1,i _ _ f.2⟩
 |outgrown=>exact i _ _ f
 |_=>exact f
def U'(P:bW)(d:Func)(f:AV)(fm:V (Y×aG)):ma:=λF e a W=>bodyPost P d (λe i=>∃v g,e= .returned v/\bu g f v/\bx F (λ_=>True) (St.kn ⟨[],fm,0,[]⟩) g i {tmps:=s6 F.n undef,defers:=[]}) e a W
def aej(l:cq P tt=ae){n}{m}{x}{y}{A}(H:lJ tt m y=ad A)(o:x.results=y.toArray:=by rfl):fA n .ret m (U' P x A m.mem):=by intro F B g W a d;let ⟨u,hu,f⟩:=Ba l d o H;refine⟨d.defers.trans B.ds,u,hu,u,g,J,f,az,B.ds.symm,?_,λi b C=>d.cX i b C,λi p b K k L M=>d.inj i p b K k L M,λ_ _ _ _ _=>trivial,λ_ _ _=>trivial,d.sub,d.below,d.le,d.fresh,λi s=>⟨h,(d.gK i s).2⟩⟩;intro t v Q;simp[St.kn,S]at Q
end
section
variable{n:Y}{sl cr:V (Y×AV)}{mem cp:V (Y×aG)}{nx:Y}{gd cD:V (Y×Bool)}{ops:Array a4}{draw:Bool}{p:Pr}{ks dJ:V Ks}{i i' n0 cF:Y}
variable{R:St->Prop}{os:V a4}{d f:Y}{ty:TypeId}{pos:String}{iM:Array Edge}{dS:V a4}
def ap5{first a}{l m}(o:runs dY n nx draw ops.toList os i ⟨sl,mem,n0,gd⟩ .t ks=(⟨ad d,.makeFunc (.func f) first a,ty,pos,iM,none⟩::dS,i',⟨cr,cp,cF,cD⟩,p,dJ))(s:sZ ⟨cr,cp,cF,cD⟩ first.toList=ad l)(u:sZ ⟨cr,cp,cF,cD⟩ a.toList=ad m)
  (v:∀k,RG Tryz.prog n ops draw nx (i'+1) dS ⟨(d,.c<|.X<|1000000*nx+1000*i')::cr,(1000000*nx+1000*i',.hY f l m)::cp,cF,cD⟩ (dJ++[k]) R)
  (x:p:=by exact QE) (g:dy d n=ae:=by rfl):RG Tryz.prog n ops draw nx i os ⟨sl,mem,n0,gd⟩ ks R:=
 kU cv o x (ap3 s u v g)
end
open Fx
noncomputable def OT{p:Y}(H:br p)(A:Fx p):V G:=Ci<|jr H.pos A
def Va{p}(H:br p) A:bA p (OT H A):=(wb<|jr H.pos A).1
def ap6{p}(H:br p) A:fx (OT H A)=A:=(wb<|jr H.pos A).2
noncomputable def iv{p:Y}(H:br p)(f:V G)(A:Fx p):V G:=(aS (OT H A) f p).2
section
variable{p:Y}(H:br p){f:V G}(hf:bA p f)(jC:f≠[])
include hf jC
def yc(A:Fx p):bA p (iv H f A)/\Z (iv H f A)<Z f/\fx f∣fx (iv H f A)-A:=by let ⟨d1,d2,d3,d4,d5,d6⟩:=mi H.hp H.le (Va H A).1 hf jC;have a:=bQ.2 jC;refine⟨d5<|Va H A,by show(aS (OT H A) f p).2.length<_;omega,?_⟩;have:=NS H (Va H A) hf jC;rwa[ap6]at this
def ap7{A:Fx p}{a:V G}(d:bA p a)(m:Z a<Z f)(g:fx f∣fx a-A):a=iv H f A:=by let ⟨m1,n,i⟩:=yc H hf jC A;have k:fx f∣fx a-fx (iv H f A):=lT g<|nz i;have l:=uG H k (by have:=IB H.pos (fx a:Fx p)<|fx<|iv H f A;rw[dc d,dc m1]at this;rw[dc hf];omega);exact uM d m1<|E0 l
end
def wI(p:Y)(f a d:V G):V G:=(aS (cT a d p) f p).2
def Vb{p}(H:br p){f a b}(g:bA p f)(d:f≠[]):bA p (wI p f a b)/\Z (wI p f a b)<Z f/\(fx f:Fx p)∣fx (wI p f a b)-fx a*fx b:=by let ⟨d1,d2,d3,d4,d5,d6⟩:=mi H.hp H.le (nv H.pos a b).1 g d;have i:=bQ.2 d;refine⟨d5<|nv H.pos a b,by show(aS (cT a b p) f p).2.length<_;omega,?_⟩;have:=NS H (nv H.pos a b) g d;rwa[wu]at this
def iw(p:Y):V (V G)->Fx p
 |[]=>1
 |g::l=>fx g*iw p l
def JG(p:Y):∀l m:V (V G),iw p (l++m)=iw p l*iw p m
 |[],m=>(one_mul _).symm
 |g::l,m=>by rw[m7,iw,iw,JG p l m,mul_assoc]
def OU(p:Y):∀{l:V (V G)}{g:V G},g∈l->(fx g:Fx p)∣iw p l
 |a::l,g,hg=>by
  rcases b9.1 hg with rfl|hg
  .exact dvd_mul_right _ _
  .exact dw (OU p hg) _
end Go.El
namespace Go.El
open Go Go.Proofs Go.RowKit
def ap8(f:Y->G){i a}(d:i<a):E ((bX a).map f) i 0=f i:=by rw[aK,jh,k6 d];rfl
open Fx
open Classical in
def Vc{p:Y}(H:br p):∀{l:V (V G)},(∀g∈l,Mon p g/\2<=Z g)->iw p l≠0/\Z l+1<=sz (iw p l)
 |[],_=>⟨qK H,by rw[iw,r7 H];exact aO _⟩
 |g::l,a=>by
  let ⟨d,h2⟩:=Vc H (l:=l) λg f=>a g (by simp[f])
  let ⟨m1,k⟩:=a g az;have i:=eh H (m1.kH H) d;rw[dc m1.c]at i;refine⟨nW H (m1.kH H) d,?_⟩;rw[iw,ik];omega
structure uZ(p:Y)(f:V G)(l:V (V G)):Prop where
 parts:∀g∈l,Mon p g/\2<=g.length/\bq (fx g:Fx p)
 prod:iw p l=fx f
structure pT(p:Y)(a:V G):Prop where
 H:br p
 am:aJ a
 l2:2<=a.length
 l9:a.length<=9
 co:Co (fx a:Fx p) (bC<|fx a)
def OV:∀(l m:V (V G)),dD (l++m)=dD l+dD m
 |[],m=>by rw[tS,dD,ff]
 |f::l,m=>by rw[m7,dD,dD,OV l m];omega
def aek{p:Y}:∀l:V (V G),iw p l=gf l
 |[]=>rfl
 |f::l=>by rw[iw,gf,aek l]
def ael{p:Y}(H:br p):∀{l:V (V G)},(∀g∈l,bq (fx g:Fx p))->qU (gf l:Fx p)->l.Pairwise (λx y=>Co (fx x:Fx p)<|fx y)
 |[],_,_=>List.Pairwise.nil
 |x::l,i,k=>by
  have d:∀{l:V (V G)}{y:V G},y∈l->(fx y:Fx p)∣gf l:=by
   intro l;induction l with
   |nil=>intro f a;cases a
   |cons y l m=>
    intro f a
    rcases b9.1 a with rfl|a
    .exact⟨gf l,by rw[gf,mul_comm]⟩
    .let ⟨w,hw⟩:=m a;exact⟨fx y*w,by rw[gf,hw,mul_assoc]⟩
  refine jR.2 ⟨λy n=>?_,ael H (λg o=>i g<|by simp[o]) (k.of_dvd ⟨fx x,J⟩)⟩;have s:=i x az;refine E5 H (λe=>by have:=s.1;rw[e,k8 H.pos]at this;omega) λQ t A B=>k Q t ?_
  let ⟨u,hu⟩:=A;let ⟨v,C⟩:=dvd_trans B<|d n;refine⟨u*v,?_⟩;show fx x*gf l=_;rw[hu,C];ac_rfl
section
variable{p:Y}{a:V G}
def pT.p1(d:pT p a):1<(p:G):=by have:=d.H.hp.1;omega
def pT.trim(d:pT p a):aN (md p a)=md p a:=(d.am.md d.p1).trim
def pT.f(d:pT p a):Mon p (md p a)/\(md p a).length=Z a/\(fx (md p a):Fx p)=fx a:=by refine⟨⟨?_,(d.am.md d.p1).1,(d.am.md d.p1).2⟩,xD _ _,abR a⟩;rw[<-d.trim];exact k7 d.H.pos<|BP d.H.pos a
def pT.ne(d:pT p a):(fx a:Fx p)≠0:=λe=>by have:=uQ d.H d.am;rw[e,k8 d.H.pos]at this;have:=d.l2;omega
def pT.lV(d:pT p a):qU (fx a:Fx p):=by let ⟨U,V,e⟩:=d.co;exact abY d.H d.ne (D:=1) (U:=U) (V:=V) (mul_one _).symm e.symm
def Vd:∀{l:V (V G)},(∀f∈l,2<=Z f)->Z l<=dD l/\∀f∈l,Z f<=1+dD l
 |[],_=>⟨aO _,λf d=>by cases d⟩
 |x::l,g=>by
  let ⟨i1,i2⟩:=Vd (l:=l) λf d=>g f (by simp[d])
  have:=g x az;refine⟨by rw[ik,dD];omega,λf d=>?_⟩;rw[dD];rcases b9.1 d with rfl|d
  .omega
  .have:=i2 f d;omega
end
def aem(a:V G):∀n,((mh a n:Y):G)=sm (λi=>((E a i 0).natAbs:G)) n
 |0=>rfl
 |n+1=>by rw[mh,sm,<-aem a n,xt]
def aen{a}(n:aJ a){g}(f:aJ g)(t:Rx.zx g∣Rx.zx a) i:(E g i 0).natAbs<=gR a:=by
 let ⟨k,m⟩:=t;have d:Rx.Mo k:=by have:=Rx.n7 n;rw[m]at this;exact this.zz<|Rx.n7 f
 let ⟨i1,_⟩:=Rx.N5 d (Rx.n7 f)<|m▸Rx.Cn a;let ⟨q,q1,u⟩:=Rx.NW i1;subst u;have s:aJ q:=Rx.NX q1 d;have o:=Rx.NY m.symm;have C:=bQ.2 s.1;have H:=bQ.2 f.1;have K:=bQ.2 n.1;have v:=Rx.eh d.ne (Rx.n7 f).ne;rw[<-m,Rx.ln n.can,Rx.ln q1,Rx.ln f.can]at v;have p:=Rx.abD (A:=ps g) (B:=ps q) (k:=Z g-1) (l:=Z q-1) (λj x=>fp g O) (λj x=>fp q O) (by rw[cH,s.2];decide) i;rw[PS.mul_comm,o,(O:Z g-1+(Z q-1)=Z a-1)]at p;have y:Rx.nR (Z a-1) (ps a)=((mh a (Z a):Y):G):=by rw[aem,Rx.nR,(O:Z a-1+1=Z a)];rfl
 rw[y]at p;have e:((gR a:Y):G)=2^(Z a-1)*((mh a (Z a):Y):G):=by rw[gR,fD,uv,eX];rfl
 rw[<-e,cH]at p;omega
def jM(p:Y)(f:V G):V G:=(bX<|Z f-1).map λi=>((((i+1)%p:Y):G)*E f (i+1) 0)%(p:G)
def JH p f:Z (jM p f)=Z f-1:=by simp[jM]
def Ve p f{i}(a:i<Z f-1):E (jM p f) i 0=((((i+1)%p:Y):G)*E f (i+1) 0)%(p:G):=by unfold jM;rw[aK,jh,k6 a];rfl
def Vf(p:Y) f:(fx (jM p f):Fx p)=bC (fx f):=mk_eq.2 (Cg.of λi=>by
 show E (jM p f) i 0%(p:G)=((i:G)+1)*E f (i+1) 0%(p:G);by_cases h:i<Z f-1
 .rw[Ve p f h,mP,HW,qG,mP,<-qG];rfl
 .rw[fp _ (by rw[JH];omega),fp f O,gY])
def JI{p:Y}(a:0<p) f:rp p (jM p f):=λi=>by
 by_cases h:i<Z f-1
 .rw[Ve p f h];exact⟨iN _ O,iO _ O⟩
 .rw[fp _ (by rw[JH];omega)];exact⟨hO _,O⟩
def FU(p:Y)(a:V G):Bool:=decide<|List.length (gy p (aN<|md p a)<|aN<|jM p<|aN<|md p a)=1
def aeo{p}(H:br p) a:FU p a=ae↔Co (fx a:Fx p) (bC<|fx a):=by
 have f:bA p (aN<|md p a):=k7 H.pos<|BP H.pos a;have g:bA p (aN<|jM p<|aN<|md p a):=k7 H.pos<|JI Cj _;have d:(fx (aN<|md p a):Fx p)=fx a:=by rw[Ff,abR]
 have i:(fx (aN<|jM p<|aN<|md p a):Fx p)=bC (fx a):=by rw[Ff,Vf,d]
 unfold FU;rw[decide_eq_true_iff,alZ H.hp H.le f g,<-anE,d,i]
def Vg p f(m:2<=p):∃k,1<=k/\f<p^k/\∀d,1<=d->d<k->p^d<=f:=by
 have i:∀n,n<p^n:=λn=>iI Nat.lt_two_pow_self<|zR m n
 have l:∀n,(∀d,1<=d->d<n+1->p^d<=f)\/∃k,1<=k/\f<p^k/\∀d,1<=d->d<k->p^d<=f:=by
  intro n;induction n with
  |zero=>exact .inl λd a f=>by omega
  |succ n g=>
   rcases g with g|g
   .by_cases h:p^(n+1)<=f
    .refine .inl λd i o=>?_
     by_cases e:d=n+1
     .rw[e];exact h
     .exact g d i O
    .exact .inr ⟨n+1,O,O,g⟩
   .exact .inr g
 rcases l (f+1)with h|h
 .have:=h (f+1) O O;have:=i<|f+1;omega
 .exact h
open Classical in
noncomputable def nE(p a:Y):Y:=if hp:2<=p then Ci (Vg p a hp)else 1
def aep{p}(d:2<=p) a:1<=nE p a/\a<p^nE p a/\∀f,1<=f->f<nE p a->p^f<=a:=by have e:nE p a=Ci (Vg p a d):=dif_pos d;rw[e];exact wb<|Vg p a d
structure JJ(a:V G):Prop where
 am:aJ a
 l2:2<=a.length
 l9:a.length<=9
 aB:∀i,aH 6 (a.getD i 0)
 ex:∃p∈sb,Co (fx a:Fx p) (bC<|fx a)
def ap9{p}(a:p∈sb):br p:=⟨anq a,by have:=(abE a).2;omega⟩
open Classical in
def ap'{A}(d:Rx.sz A=2):Rx.bq A:=by
 refine⟨O,λX Y e=>?_⟩;have f:A≠0:=λe=>by rw[e,Rx.k8]at d;omega
 have g:X≠0:=λa=>f (by rw[e,a,Rx.zero_mul])
 have i:Y≠0:=λa=>f (by rw[e,a,Rx.mul_zero])
 have k:=Rx.eh g i;rw[<-e,d]at k;have:=Rx.fq g;have:=Rx.fq i;omega
def JJ.bB{a}(d:JJ a):aH 8 ((2*gR a:Y):G):=by have g:=abp a d.aB (i:=Z a) (by have:=d.l9;omega);have f:2^(Z a-1)<=2^8:=eQ D (by have:=d.l9;omega);unfold aH at*;rw[px]at*;have k:gR a<=mh a (Z a)*2^8:=fN _ f;omega
def JJ.mBp{a}(f:JJ a){p:Y}(q1:2<=p)(m:p<4294967296):aH 9 ((p:G)^nE p (2*gR a))/\nE p (2*gR a)<=257:=by
 have d:=f.bB;let ⟨n,o,g⟩:=aep (p:=p) q1<|2*gR a;generalize nE p (2*gR a)=k at*;generalize 2*gR a=b at*;unfold aH at d;rw[px]at d;by_cases e:k=1
 .subst e;refine⟨?_,O⟩;unfold aH;rw[fK,o8,kL,px];have:(4294967296:Y)^1<=4294967296^9:=eQ D D;omega
 .obtain⟨j,rfl⟩:∃j,k=j+1:=⟨k-1,O⟩;have s:=g j O O;have t:p^j<4294967296^8:=O;constructor
  .unfold aH;rw[<-uv,px,fO];have u:p^j*p<=p^j*4294967296:=fN _ O;omega
  .have i:2^j<=p^j:=zR O j;have l:(2:Y)^j<2^256:=by refine vW i ?_;have:(4294967296:Y)^8=2^256:=D;omega
   have:=(Nat.pow_lt_pow_iff_right (a:=2) D).1 l;omega
end Go.El
