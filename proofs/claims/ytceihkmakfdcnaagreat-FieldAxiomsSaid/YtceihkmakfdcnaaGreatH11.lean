/- The fast interpreter, part 9: it is sound. Own work; no condition. -/
import Derived.RangeFuncOwn
import Derived.RangeFuncLeaves
import Derived.Scope
import Derived.Test.YtceihkmakfdcnaaGreatH10
import Derived.Test.YtceihkmakfdcnaaGreatH4
import Derived.Test.YtceihkmakfdcnaaGreatH9
import Derived.Test.YtceihkmakfdcnaaGreatH5
import Derived.Test.YtceihkmakfdcnaaGreatH8
import Derived.Test.YtceihkmakfdcnaaGreatH6
import Derived.Test.YtceihkmakfdcnaaGreatH7
set_option linter.all false
set_option maxHeartbeats 16000000
set_option maxRecDepth 100000
open Array renaming replicate->rI
open Bool renaming true->ae,false->ah
open Classical renaming choose->AU
open Go renaming Program->bS,Code->gH,FuncId->jA,World->cE,Value->aO,Deferred->HT,Operand->dS,Oper->aX
open Go.Deferred renaming ofValue->FC
open Go.El renaming jt->S,vK->r
open Go.Exit renaming inBlock->Cc
open Go.Operand renaming tmp->abr
open Go.World renaming putObj_heap_other->ML,putObj_heap_same->amr,alloc_heap_new->am2
open Go.stepG renaming exec->amm
open List renaming length->Z,drop->az,getD->E,range'->abm,take->h,range->cd
open Nat renaming ble->dT,strongRecOn->Eu,beq->gG,blt->dj
open Option renaming some->ad
open _root_ renaming Nat->Y,List->V,Option->ar,Int->G
namespace Go.El
open Go Go.Proofs Go.RowKit
def dv(a:Rc)(e:Ex)(t:Tr)(d:Ms)(k:Y)(f:V Y):Prop:=match e with
 | .dc=>a= .dc t d k f
 | .fW id=>a= .fW id t d k f
 | .ret=>a= .ret t d k f
def SD(P:bS)(dep n l:Y)(m:gH)(t:Tr)(f:Ms)(k:Y)(o:V Y)(e:Ex)(g:Tr)(a:Ms)(i:Y)(d:V Y):Prop:=
 Left l dep n t f k o g a i d/\FK P n m (a7 dep n t f.flatten) k e (a7 dep n g a.flatten) i
section
variable{P:bS}{tt:TT}{dw:jA->V AV->Ms->ar (V AV×AV)}
def SE{n}(a:n<=4096):n<=4^eC n:=by
 unfold eC;split
 .simpa using by omega
 .split
  .simpa using by omega
  .split
   .simpa using by omega
   .split
    .simpa using by omega
    .simpa using a
def Bi(dep:Y):∀(vs:V AV)(i:Y)(t:Tr)(a:Y),i+Z vs<=4^dep->a<4^dep->iZ (cP dep a) (mC dep vs i t)=match S a (dr i vs)with|some v=>ad v|none=>iZ (cP dep a) t
 |[],i,t,a,_,_=>rfl
 |v::vs,i,t,a,hle,g=>by
  have e:mC dep (v::vs) i t=mC dep vs (i+1) (jk (cP dep i) v t):=rfl;simp only[gQ]at hle;rw[e,Bi dep vs (i+1) _ a O g];have f:∀(l:V AV)(d:Y),i<d->S i (dr d l)=none:=by
   intro l;induction l with
   |nil=>intro _ _;rfl
   |cons y l k=>intro d m;simp only[dr,S];rw[w O];exact k (d+1) O
  simp only[dr,S];by_cases h:i=a
  .subst h;rw[ao J,f vs (i+1) O];simp only[Hx]
  .rw[w h];rw[DI _ _ _ _ DK (λn=>h<|A7 dep O g n)]
def y4:∀(vs:V AV)(i f:Y)(v:AV),S f (dr i vs)=ad v->f<i+Z vs/\∀g∈v.ak,g∈cF vs
 |[],i,f,v,d=>by simp[dr,S]at d
 |x::vs,i,f,v,d=>by
  simp only[dr,S]at d;split at d
  .rename_i e;cases d;subst e;exact⟨ax,λg a=>by simp[cF,a]⟩
  .let ⟨k,h2⟩:=y4 vs (i+1) f v d;exact⟨bV,λg a=>by simp[cF,h2 g a]⟩
def aa4{dep n}{t}{d}{x}{v}(a:HK tt dep n t d x=ad v):nT tt (a7 dep n t d.flatten) x=ad v:=by
 cases x with
 |tmp j=>
  simp only[HK]at a
  split at a
  .rename_i f;simp only[nT,a7,r8,ao<|yY f];exact a
  .cases a
 |cell j ty=>
  simp only[HK]at a
  split at a
  .rename_i f;have e:S j (a7 dep n t d.flatten).sl=iZ (cP dep j) t:=by show S j (eE dep n t)=_;rw[r8,ao<|yY f]
   simp only[nT,e];split at a
   .rename_i g k l;simp only[l];have m:S g (a7 dep n t d.flatten).mem=bu g d:=ja g d;simp only[m];split at a
    .rename_i E p q sz s o i;simp only[o,i];exact a
    .cases a
   .cases a
  .cases a
def aa5{dep n:Y}{t:Tr}{e:Ms}:∀{xs:V ResultVar}{d:V (Bool×V C)},Mr tt dep n t e xs=ad d->nU tt (a7 dep n t e.flatten) xs=ad d
 |[],d,a=>a
 |x::xs,d,a=>by
  simp only[Mr]at a;split at a
  .rename_i v f;split at a
   .rename_i s k g i;cases a;simp only[nU,aa4 f,g,aa5 i]
   .cases a
  .cases a
def aa6{dep n}{t}{e}{xs}{v}(a:DZ tt dep n t e xs=ad v):kF tt (a7 dep n t e.flatten) xs=ad v:=by
 unfold DZ at a;unfold kF;split at a
 .exact aa4 a
 .rename_i xs d;split at a
  .rename_i g f;cases a;have:=aa5 f;split
   .rename_i x;exact absurd J<|d x
   .rw[this];rfl
  .cases a
def MG(own:Mem):∀(f:Y)(d:V Y)(a:Mem),(∀g k,S g a=ad k->S g own=ad k)->∀g k,S g (xc f own d a)=ad k->S g own=ad k
 |0,_,a,m,g,k,l=>m g k (by simpa[xc]using l)
 |f+1,[],a,m,g,k,l=>m g k (by simpa[xc]using l)
 |f+1,i::d,a,m,g,k,l=>by
  simp only[xc]at l;split at l
  .exact MG own f d a m g k l
  .split at l
   .rename_i q o;refine MG own f _ _ ?_ g k l;intro p x n;simp only[S]at n;split at n
    .rename_i e;cases n;subst e;rw[<-w6];exact o
    .exact m p x n
   .exact MG own f d a m g k l
def HP{k:Y}{g:Ms}:∀{l:V Y},Be k g l=ae->∀e∈l,k<=e\/∃f,bu e g=ad f
 |[],_,e,d=>by cases d
 |x::n,d,e,a=>by
  simp only[Be]at d;split at d
  .rename_i i;rcases bX.1 a with rfl|a
   .exact .inl<|c9 i
   .exact HP d e a
  .split at d
   .rename_i f m;rcases bX.1 a with rfl|a
    .exact .inr ⟨f,m⟩
    .exact HP d e a
   .cases d
def aa7{k:Y}{m:Ms}:∀{l:Mem},Mt k m l=ae->∀f d,S f l=ad d->k<=f/\∀n∈d.ak,k<=n\/∃d,bu n m=ad d
 |[],_,f,d,a=>by simp[S]at a
 | (i,x)::q,a,f,d,g=>by
  simp only[Mt]at a;split at a
  .rename_i o;split at a
   .rename_i p;simp only[S]at g;split at g
    .rename_i e;cases g;subst e;exact⟨c9 o,HP p⟩
    .exact aa7 a f d g
   .cases a
  .cases a
def MH{k:Y}{n g:Ms}:∀{l:V Y},D0 k n g l=ae->∀i∈l,∀f,bu i g=ad f->∀o∈f.ak,k<=o\/∃f,bu o n=ad f
 |[],_,i,d=>by cases d
 |x::q,d,i,a=>by
  simp only[D0]at d;split at d
  .rename_i s e;split at d
   .rename_i p;rcases bX.1 a with rfl|a
    .intro f m;rw[e]at m;cases m;exact HP p
    .exact MH d i a
   .cases d
  .rename_i e;rcases bX.1 a with rfl|a
   .intro f m;rw[e]at m;cases m
   .exact MH d i a
def aa8{k:Y}:∀{l:Mem},Si k l=ae->∀a d,S a l=ad d->k<=a
 |[],_,a,d,g=>by simp[S]at g
 | (i,x)::o,g,a,d,m=>by
  have f:Bool.rec (motive:=λ_=>Bool) ah (Si k o) (dT k i)=ae:=g;cases n:dT k i with
  |false=>rw[n]at f;cases f
  |true=>
   rw[n]at f
   simp only[S]at m
   split at m
   .rename_i e;subst e;exact c9 n
   .exact aa8 f a d m
def aa9(a:Mem)(rest:Ms)(d:Y):bu d (yW a rest)=match S d a with|some e=>ad e|none=>bu d rest:=by
 rw[<-ja];cases rest with
 |nil=>simp only[yW,Jf,List.flatten_nil,g8];cases S d a<;>rfl
 |cons m r=>
  rw[show(yW a<|m::r).flatten=a++(m++r.flatten)by simp[yW],CH,(ax:m++r.flatten=(m::r).flatten),ja]
  cases S d a<;>rfl
def MI(a:Y):∀(i:V Y)(d:Ms),bu a (vf i d)=if a∈i then(bu a d).map DY else bu a d
 |[],d=>by simp[vf]
 |id::m,d=>by
  have k:=MI a m;unfold vf;split
  .rename_i E sz l f;rw[k,DO,f];by_cases h2:id=a
   .subst h2;simp[f,DY]
   .have n:¬a=id:=λe=>h2 e.symm
    simp[h2,n]
  .rename_i g;rw[k];by_cases h2:a=id
   .subst h2;have e:(bu a d).map DY=bu a d:=by
     cases f:bu a d with
     |none=>rfl
     |some b=>
      cases b with
      |box E sz l=>exact absurd f<|g E sz l
      |vec _ _ _=>rfl
      |gM _ _ _=>rfl
      |fz _ _=>rfl
      |mp _ _ _=>rfl
      |it _ _ _=>rfl
    simp[e]
   .simp[h2]
def SF:∀(e:V Y)(a:Ms),lu a (vf e a)
 |[],a=>lu.refl a
 |id::d,a=>by
  unfold vf;split
  .exact(Sj id _ a).trans<|SF d _
  .exact SF d a
def SG(bW:b8 P tt=ae)(y5:∀f vs g lU aV,dw f vs g=ad (lU,aV)->r P f lU aV){body:xd}
  (alZ:∀dep n ke df t g k wl e t' q k' ku,n<=4^dep->ke<=k->dB dep n t k->eP g k->dv (body dep n ke df t g k wl) e t' q k' ku->SD P dep n ke df t g k wl e t' q k' ku):vg P (sa P tt dw body):=by
 constructor
 intro f vs g k aV q k' wl h jl uv
 unfold sa at h
 split at h
 .rename_i lU r0 hc;dsimp only at h;generalize HM g 200 (cF vs) []=D at h;split at h
  .rename_i o;simp only[Cr.ok.injEq]at h;obtain⟨rfl,rfl,rfl,rfl⟩:=h;simp only[cw]at o;have hm:cF lU=[]:=List.isEmpty_iff.1 o.1.2;have hf:=y5 _ _ _ _ _ hc;have hr:r0.ak=[]:=hf.iy;have l:∀a b,bu a (vf D g)=ad b->∃B,bu a g=ad B/\b.ak=B.ak/\(a∉D->b=B):=λa b hb=>by
    rw[MI]at hb;split at hb
    .rename_i hd;obtain⟨B,h0,rfl⟩:=cu.1 hb;exact⟨B,h0,aaI B,λh=>absurd hd h⟩
    .exact⟨b,hb,J,λ_=>rfl⟩
   refine⟨alp hf hm D (λa=>by rw[ja,ja,MI]) (λa b hl=>?_) o.1.1 k,λa d=>(by rw[hr]at d;cases d),λa b hb=>?_,λa _ js=>(by rw[MI,w js]),λa b hb=>(by let ⟨B,h0,_⟩:=l a b hb;exact .inr ⟨B,h0⟩),λa b hb=>(by let ⟨B,h0,mc,_⟩:=l a b hb;rw[mc];exact jl a B h0),λa d=>(by rw[hr]at d;cases d),SF D g⟩;rotate_left
   .by_cases hd:a∈D
    .exact .inr<|MH o.2 a hd b hb
    .let ⟨B,h0,_,he⟩:=l a b hb;rw[he hd];exact .inl h0
   unfold lkS at hl;split at hl
   .rename_i ha;rw[ja];refine⟨?_,hl⟩;let ⟨x,U,he⟩:=List.any_eq_true.1 ha;rw[kI he];exact U
   .cases hl
  .cases h
 .split at h
  .rename_i K hf;split at h
   .rename_i df hb;split at h
    .rename_i o;simp only[cw]at o;let ⟨⟨sF,W⟩,jS⟩:=o;have W:Z vs<=K.ntmps:=c9 W;have hn:K.ntmps<=4^eC K.ntmps:=SE<|c9 jS;have y6:∀a,bu a ([]::g)=bu a g:=λ_=>rfl
     have lT:dB (eC K.ntmps) K.ntmps (mC (eC K.ntmps) vs 0 .e) k:=by
      intro j v hj hv a d;rw[Bi _ vs 0 .e j O O,yQ]at hv;split at hv
      .rename_i u hu;cases hv;exact uv a<|(y4 vs 0 j v hu).2 a d
      .cases hv
     have q':(a7 (eC K.ntmps) K.ntmps (mC (eC K.ntmps) vs 0 .e) ([]::g:Ms).flatten).kn=St.kn ⟨dr 0 vs,g.flatten,0,[]⟩:=by
      rw[DJ];funext key;cases key with
      |m a=>simp[St.kn]
      |s j=>
       simp only[St.kn]
       by_cases hj:j<K.ntmps
       .rw[ao hj,Bi _ vs 0 .e j O O,yQ];cases S j (dr 0 vs)<;>rfl
       .rw[w hj];cases hl:S j (dr 0 vs)with
        |none=>rfl
        |some v=>have:=(y4 vs 0 j v hl).1;omega
     have fin:∀(e:Ex)(M:Tr)(L:Ms)(I:Y)(F:V Y),(e= .dc\/e= .ret)->dv (body (eC K.ntmps) K.ntmps k df (mC (eC K.ntmps) vs 0 .e) ([]::g) k []) e M L I F->leave tt K (eC K.ntmps) g k M L I F= .ok aV q k' wl->
       CX P f vs g.flatten k aV q.flatten k'/\(∀a∈aV.ak,k<=a\/∃b,bu a g=ad b)/\(∀a b,bu a q=ad b->bu a g=ad b\/∀j∈b.ak,k<=j\/∃b,bu j g=ad b)/\
       (∀a,a<k->a∉wl->bu a q=bu a g)/\(∀a b,bu a q=ad b->k<=a\/∃B,bu a g=ad B)/\eP q k'/\(∀a∈aV.ak,a<k')/\lu g q:=by
      intro e M L I F he hrc p
      let ⟨hL,hG⟩:=alZ _ _ _ _ _ _ _ _ _ _ _ _ _ hn (aW k) lT (show eP ([]::g) k from λa b hb=>jl a b hb) hrc
      unfold leave at p
      split at p
      .rename_i r1 uy;split at p
       .rename_i own rest;dsimp only at p;generalize hsv:xc 1000 own (r1.ak++HL rest F) []=sv at p;split at p
        .rename_i X;simp only[Cr.ok.injEq]at p;obtain⟨rfl,rfl,rfl,rfl⟩:=p;simp only[cw]at X;let ⟨⟨⟨HQ,A6⟩,hc3⟩,hc4⟩:=X;have H:=aa6 uy;have HR:=aa8 hc4;have y:=MG own 1000 (r1.ak++HL rest F) [] (λa b h=>by simp[S]at h);rw[hsv]at y;have Q:=aa7 A6;have z:∀a,bu a (own::rest)=match S a own with|some b=>ad b|none=>bu a rest:=by
          intro a;have e1:bu a (own::rest)=match lR a own with|some b=>ad b|none=>bu a rest:=rfl
          rw[e1,w6]
         have A:∀a,a<k->bu a (own::rest)=bu a rest:=by
          intro a d;rw[z];cases ho:S a own with
          |none=>rfl
          |some b=>have:=HR a b ho;omega
         have Fk:=hL.tl;have G:∀i j b,bu j (az i rest)=ad b->∃B,bu j (az i g)=ad B:=by intro i j b hb;have:=Fk (i+1) j b O sC;simpa using this
         have EP:∀j b,bu j rest=ad b->j<k/\∃B,bu j g=ad B:=by
          intro j b hb;let ⟨B,N⟩:=G 0 j b sC;have N:bu j g=ad B:=by simpa using N
          exact⟨(jl j B N).1,B,N⟩
         have l:∀a b,bu a (yW sv rest)=ad b->bu a (own::rest)=ad b/\((k<=a/\S a sv=ad b)\/(a<k/\bu a rest=ad b)):=by
          intro a b hb;rw[aa9]at hb;cases T:S a sv with
          |some x=>
           rw[T]at hb
           cases hb
           exact⟨by rw[z,y a b T],.inl ⟨(Q a b T).1,J⟩⟩
          |none=>
           rw[T]at hb
           have gN:=(EP a b hb).1
           exact⟨by rw[A a gN];exact hb,.inr ⟨gN,hb⟩⟩
         refine⟨?_,HP HQ,?_,?_,?_,?_,?_,?_⟩
         .refine ahi bW hf hb sF W he ?_ H (λa b hb=>?_)
          .rw[FK]at hG⊢;rw[q']at hG;exact hG
          .show S a (own::rest:Ms).flatten=ad b;rw[ja];exact(l a b MB).1
         .intro a b hb;rcases(l a b hb).2 with⟨R,h2⟩|⟨R,h2⟩
          .exact .inr (Q a b h2).2
          .by_cases hw:a∈F
           .exact .inr<|MH hc3 a hw b h2
           .have:=(hL.log a R hw).2;rw[A a R,h2,y6]at this;exact .inl this.symm
         .intro a d hw;have R:=(hL.log a d hw).2;rw[A a d,y6]at R;rw[aa9];have hns:S a sv=none:=by
           cases T:S a sv with
           |none=>rfl
           |some x=>have:=(Q a x T).1;omega
          rw[hns];exact R
         .intro a b hb;rcases(l a b hb).2 with⟨R,h2⟩|⟨R,h2⟩
          .exact .inl R
          .exact .inr (EP a b h2).2
         .intro a b hb;exact hL.eP a b (l a b hb).1
         .intro a d;have al5:∀a∈r1.ak,a<I:=by
           have hwk:∀(x:ResultVar)(v:AV),nT tt (a7 (eC K.ntmps) K.ntmps M (own::rest:Ms).flatten) x=ad v->∀a∈v.ak,a<I:=by
            intro x v U a d;cases x with
            |tmp j=>
             simp only[nT,a7,r8]at U
             split at U
             .rename_i hj;exact hL.dB j v hj U a d
             .cases U
            |cell j ty=>
             simp only[nT]at U
             split at U
             .rename_i pid off hp;split at U
              .rename_i E bz cs sz ag FO IV;have h3:bu pid (own::rest)=ad (.box E bz cs):=by rw[<-ja];exact FO
               exact(hL.eP pid _ h3).2 a<|xA U a d
              .cases U
             .cases U
           have wm:∀(xs:V ResultVar)(ss:V (Bool×V C)),nU tt (a7 (eC K.ntmps) K.ntmps M (own::rest:Ms).flatten) xs=ad ss->∀a∈eo ss,a<I:=by
            intro xs;induction xs with
            |nil=>intro ss h a d;simp only[nU,au]at h;subst h;simp[eo]at d
            |cons x xs ih=>
             intro ss h a d
             simp only[nU]at h
             split at h
             .rename_i v hv;split at h
              .rename_i s aV T hr;cases h;simp only[eo,aY]at d;rcases d with d|d
               .rw[JF T]at d;exact hwk x v hv a d
               .exact ih aV hr a d
              .cases h
             .cases h
           intro a d;unfold kF at H;split at H
           .exact hwk _ _ H a d
           .simp only[cu]at H;obtain⟨ss,hss,rfl⟩:=H;exact wm _ ss hss a d
          exact al5 a d
         .intro i j b hi hb;have:bu j (az i rest)=ad b:=by
           obtain⟨i,rfl⟩:∃i',i=i'+1:=⟨i-1,O⟩;cases rest with
           |nil=>simpa[yW]using hb
           |cons m aV=>simpa[yW]using hb
          exact G i j b this
        .cases p
       .cases p
      .cases p
     split at h
     .rename_i M L I F D2;exact fin .dc M L I F (.inl J) D2 h
     .rename_i M L I F D2;exact fin .ret M L I F (.inr J) D2 h
     .cases h
    .cases h
   .cases h
  .cases h
end
section
variable{P:bS}{tt:TT}{dw:jA->V AV->Ms->ar (V AV×AV)}
def abb{W:Fence}{n}{o}{α:Type}(L:α->Act->cE->Prop)(U:α->Y){Q:Exit->Act->cE->Prop} x{a}{i}(v:L x a i)
  (round:∀x a i,L x a i->o.wpIn W n P (Exit.then (λt u=>∃B,L B t u/\U B<U x) Q) a i):(Code.loop o).wpIn W n P Q a i:=by
 intro b k K X h r
 have y:∀j x a i,U x=j->L x a i->
   ∃e t u,Q e t u/\ArrivesIn (Machine.fenced P W) P (lone (b.atR a<|.code o:: .inLoop o::k) K i) b k K e t u:=by
  intro j
  induction j using Eu with
  |_ j A=>
   intro x a i D E
   let ⟨e,f,g,p,d⟩:=round x a i E b (.inLoop o::k) K X h r
   cases e with
   |normal=>
    let ⟨B,q,z⟩:=p
    let ⟨C,F,H,s,m⟩:=A (U B) (D▸z) B f g J q
    exact⟨C,F,H,s,.of_steps (StepsIn.trans d<|.one (fenced_calm h r J) stepR_inLoop) m⟩
   |exit id=>exact⟨_,f,g,p,.pass (x:= .inLoop o) J (λ_ _=> .inl ax) d⟩
   |goto l=>exact⟨_,f,g,p,.pass (x:= .inLoop o) J (λ_ _=> .inl ax) d⟩
   |ret=>exact⟨_,f,g,p,.pass (x:= .inLoop o) J (λ_ _=> .inl ax) d⟩
   |panic ch=>exact⟨_,f,g,p,.pass (x:= .inLoop o) J (λ_ _=> .inl ax) d⟩
   |outgrown=>exact⟨_,f,g,p,.pass (x:= .inLoop o) J (λ_ _=> .inl ax) d⟩
 let ⟨e,t,u,p,d⟩:=y _ x a i J v
 exact⟨e,t,u,p,.of_steps (.one (fenced_calm h r J) stepR_loop) d⟩
def abd(jT:P.follows .mixedOrders=ae)(bW:b8 P tt=ae){oU:lS}(nX:vg P oU){dep n ke}(hn:n<=4^dep){d}{L}{gs}{ps}(e:Mp dep n d.toList L=ad (gs,ps)){t}{ms}{k}{wl}(oT:ke<=k)(lT:dB dep n t k)(jl:eP ms k){t'}{vj}{k'}{ku}{fs}
  (cq:xa oU tt n ke gs t ms k wl []= .ok t' vj k' ku fs) (hp:∀l,ps=ad l->DR fs.reverse l=ae) id:SD P dep n ke (.region id d L) t ms k wl .dc t' vj k' ku:=by
 unfold Mp at e
 split at e
 .rename_i gs' PW;have hgg:gs'=gs:=by
   split at e
   .cases e;rfl
   .split at e
    .cases e;rfl
    .cases e
  subst hgg;let ⟨ds,cl,kk,r,hS,⟨HQ,A6⟩,SH,Sz,K,hL⟩:=aa0 bW nX hn d.toList 0 cq PW ax oT lT jl;refine⟨hL,hL.le,λF hF js g W a w=>?_⟩;subst hF;refine alX jT hS ?_ (λg W a h'=>⟨J,g,h'⟩) w js.region;intro hd;subst hd;simp only at e;split at e
  .rename_i y;cases e;have ho:=U4 y;refine⟨ho.1,?_⟩;have U:=hp _ J;rw[SH]at U;simp only[g8,List.reverse_reverse]at U;intro i j NY hj p Q;have hds:Z ds=d.size:=by simpa using hS.len
   have asr:Z r=d.size:=by simpa using Sz
   have z:∀x,x<d.size->∃o a f,d.toList[x]? =ad o/\kk[x]? =ad a/\r[x]? =ad f/\(∀p∈dq (E ds x ([],[])).1,p∈a.1)/\(∀p∈fD (E ds x ([],[])).2,p∈a.2):=by intro x hx;have h1:x<Z kk:=O;have h2:x<Z ds:=O;have h3:x<Z d.toList:=CB;have h4:x<Z r:=O;refine⟨_,_,_,cK h3,cK h1,cK h4,?_⟩;rw[zK ds _ x h2];exact A6 x h2 h1
   let ⟨oi,ai,A,X,hai,D,G,v⟩:=z i O;let ⟨oj,aj,I,b,haj,M,N,B⟩:=z j hj;let ⟨⟨R,C⟩,mN⟩:=K i ai oi A hai X D;let ⟨⟨S,H⟩,htj⟩:=K j aj oj I haj b M;have c:p8 (xb d.toList oi) (xb d.toList oj)=ae->lB d i j:=by
    intro q9;refine ho.2 i j _ _ NY hj ?_ ?_ q9
    .rw[iV,X];rfl
    .rw[iV,b];rfl
   have T:∀x,((mD A x/\mD I x)\/(mD A x/\qP I x)\/(qP A x/\mD I x))->lB d i j:=by
    intro x hx;let ⟨Qv,hms⟩:=Ou (ops:=d) d.toList [] ax ax (λk hk=>by simp at hk);have V:j<Z (oM d.toList []):=O;by_cases hb:(oM d.toList [])[j].testBit i=ae
    .exact hms j V i hb
    .exfalso;have Y:ni oi=ae:=by
      cases w:ni oi with
      |true=>rfl
      |false=>rw[mN w]at hx;simp[mD,qP]at hx
     have amc:ni oj=ae:=by
      cases w:ni oj with
      |true=>rfl
      |false=>rw[htj w]at hx;simp[mD,qP]at hx
     have JW:=aa3 (opsL:=d.toList) X Y (ml:=oM d.toList []) (os:=d.toList) (j0:=0) (a:=j) (m:=(oM d.toList [])[j]) (cK V) b amc O sC;have hcf:=aa1 U i (0+j) JW;have e1:r.getD i .n=A:=by rw[aM,D];rfl
     have e2:r.getD (0+j) .n=I:=by rw[eH,aM,M];rfl
     rw[e1,e2]at hcf;let ⟨n1,n2,n3⟩:=alY hcf x;rcases hx with hx|hx|hx
     .exact n1 hx
     .exact n2 hx
     .exact n3 hx
   cases p with
   |s x=>
    refine c ?_
    rcases Q with⟨q,u⟩|⟨q,u⟩|⟨q,u⟩
    .have a1:=C _<|v _ q;have a2:=H _<|B _ u;simp only[p8,Ca a1 a2,I7]
    .have a1:=C _<|v _ q;have a2:=S _<|N _ u;simp only[p8,Ca a1 a2,I7,I9]
    .have a1:=R _<|G _ q;have a2:=H _<|B _ u;simp only[p8,Ca a1 a2,I9]
   |m x=>
    refine T x ?_
    rcases Q with⟨q,u⟩|⟨q,u⟩|⟨q,u⟩
    .exact .inl ⟨C _<|v _ q,H _<|B _ u⟩
    .exact .inr<|.inl ⟨C _<|v _ q,S _<|N _ u⟩
    .exact .inr<|.inr ⟨R _<|G _ q,H _<|B _ u⟩
  .cases e
 .cases e
def mE{e:Ex}{t}{a}{k}{d}(f:dv .no e t a k d):False:=by cases e<;>simp[dv]at f
def dv.inj{i:Rc}{e g:Ex}{t l}{m a}{k n}{o d}(p:dv i e t m k o)(f:dv i g l a n d):e=g/\t=l/\m=a/\k=n/\o=d:=by cases e<;>cases g<;>simp only[dv]at p f<;>rw[p]at f<;>simp at f<;>simp[f]
def dv.get{r:Rc}:r= .no\/∃e t a k d,dv r e t a k d:=by
 cases r with
 |no=>exact .inl J
 |dc t a k d=>exact .inr ⟨.dc,t,a,k,d,J⟩
 |fW id t a k d=>exact .inr ⟨.fW id,t,a,k,d,J⟩
 |ret t a k d=>exact .inr ⟨.ret,t,a,k,d,J⟩
def D3(jT:P.follows .mixedOrders=ae)(bW:b8 P tt=ae)(y5:∀f vs Q lU aV,dw f vs Q=ad (lU,aV)->r P f lU aV):
  ∀(f dep n U:Y)(df:gH)(t:Tr)(Q:Ms)(k:Y)(wl:V Y)(e:Ex)(t':Tr)(H:Ms)(k':Y)(L:V Y),n<=4^dep->U<=k->dB dep n t k->eP Q k->dv (im P tt dw f dep n U df t Q k wl) e t' H k' L->SD P dep n U df t Q k wl e t' H k' L:=by
 intro f
 induction f using Eu with
 |_ f0 SI=>
 cases f0 with
 |zero=>intro dep n U df t Q k wl e t' H k' L _ _ _ _ h;exact(mE h).elim
 |succ f=>
  have ih:=SI f O
  intro dep n U df t Q k wl e t' H k' L hn z X j h
  cases df with
  |skip=>
   have S:dv (.dc t Q k wl) .dc t Q k wl:=rfl
   obtain⟨rfl,rfl,rfl,rfl,rfl⟩:=dv.inj S h
   exact⟨Left.refl X j,aW _,λF w i g W a v=>wpIn_skip ⟨J,g,v⟩⟩
  |exit id=>
   have S:dv (.fW id t Q k wl) (.fW id) t Q k wl:=rfl
   obtain⟨rfl,rfl,rfl,rfl,rfl⟩:=dv.inj S h
   exact⟨Left.refl X j,aW _,λF w i g W a v=>wpIn_exit ⟨J,g,v⟩⟩
  |ret=>
   have S:dv (.ret t Q k wl) .ret t Q k wl:=rfl
   obtain⟨rfl,rfl,rfl,rfl,rfl⟩:=dv.inj S h
   exact⟨Left.refl X j,aW _,λF w i g W a v=>wpIn_ret ⟨J,g,v⟩⟩
  |seq x y=>
   have d:dv (match im P tt dw f dep n U x t Q k wl with| .dc E s G u=>im P tt dw f dep n U y E s G u|aV=>aV) e t' H k' L:=h
   rcases dv.get (r:=im P tt dw f dep n U x t Q k wl)with q|⟨e1,E,s,G,u,q⟩
   .rw[q]at d;exact(mE d).elim
   .have o:=ih _ _ _ _ _ _ _ _ _ _ _ _ _ hn z X j q;cases e1 with
    |dc=>
     simp only[dv]at q
     rw[q]at d
     have g2:=ih _ _ _ _ _ _ _ _ _ _ _ _ _ hn (bQ z o.1.le) o.1.dB o.1.eP d
     refine⟨o.1.trans g2.1,bQ o.2.1 g2.2.1,λF w i g W a v=>wpIn_seq<|wpIn_mono (o.2.2 F w i.seq.1 g W a v) ?_⟩
     rintro e' a' W' ⟨rfl,I,M⟩
     exact g2.2.2 F w i.seq.2 I W' a' M
    |fW id=>
     simp only[dv]at q
     rw[q]at d
     obtain⟨rfl,rfl,rfl,rfl,rfl⟩:=dv.inj (e:= .fW id) J d
     refine⟨o.1,o.2.1,λF w i g W a v=>wpIn_seq<|wpIn_mono (o.2.2 F w i.seq.1 g W a v) ?_⟩
     rintro e' a' W' ⟨rfl,I,M⟩
     exact⟨J,I,M⟩
    |ret=>
     simp only[dv]at q
     rw[q]at d
     obtain⟨rfl,rfl,rfl,rfl,rfl⟩:=dv.inj (e:= .ret) J d
     refine⟨o.1,o.2.1,λF w i g W a v=>wpIn_seq<|wpIn_mono (o.2.2 F w i.seq.1 g W a v) ?_⟩
     rintro e' a' W' ⟨rfl,I,M⟩
     exact⟨J,I,M⟩
  |cond N x y=>
   have d:dv (match il dep n N with
    |some p=>(match jz t p with
     |some (.c<|.B b)=>(match b with
      |true=>im P tt dw f dep n U x t Q k wl
      |false=>im P tt dw f dep n U y t Q k wl)
     |_=> .no)
    |none=> .no) e t' H k' L:=h
   split at d
   .rename_i p hp;split at d
    .rename_i b hb;have HS:=kr (m:=Q.flatten) hp hb;split at d
     .have o:=ih _ _ _ _ _ _ _ _ _ _ _ _ _ hn z X j d;refine⟨o.1,o.2.1,λF w i g W a v=>?_⟩;have q:bA g (.c<|.B ae) (a.eval N):=du v _ N _ HS<|dV _ N;exact wpIn_cond_split q (λ_=>o.2.2 F w i.cond.1 g W a v)<|λe=>ve
     .have o:=ih _ _ _ _ _ _ _ _ _ _ _ _ _ hn z X j d;refine⟨o.1,o.2.1,λF w i g W a v=>?_⟩;have q:bA g (.c<|.B ah) (a.eval N):=du v _ N _ HS<|dV _ N;exact wpIn_cond_split q (λe=>ve)<|λ_=>o.2.2 F w i.cond.2 g W a v
    .exact(mE d).elim
   .exact(mE d).elim
  |block id x=>
   have d:dv (match im P tt dw f dep n U x t Q k wl with
    | .fW T E s G u=>(match gG T id with|true=> .dc E s G u|false=> .fW T E s G u)
    |aV=>aV) e t' H k' L:=h
   rcases dv.get (r:=im P tt dw f dep n U x t Q k wl)with q|⟨e1,E,s,G,u,q⟩
   .rw[q]at d;exact(mE d).elim
   .have o:=ih _ _ _ _ _ _ _ _ _ _ _ _ _ hn z X j q;cases e1 with
    |dc=>
     simp only[dv]at q
     rw[q]at d
     obtain⟨rfl,rfl,rfl,rfl,rfl⟩:=dv.inj (e:= .dc) J d
     refine⟨o.1,o.2.1,λF w i g W a v=>wpIn_block<|wpIn_mono (o.2.2 F w i.block g W a v) ?_⟩
     rintro e' a' W' ⟨rfl,I,M⟩
     exact⟨J,I,M⟩
    |fW T=>
     simp only[dv]at q
     rw[q]at d
     dsimp only at d
     split at d
     .rename_i Z;have Z:T=id:=kI Z;subst Z;obtain⟨rfl,rfl,rfl,rfl,rfl⟩:=dv.inj (e:= .dc) J d;refine⟨o.1,o.2.1,λF w i g W a v=>wpIn_block<|wpIn_mono (o.2.2 F w i.block g W a v) ?_⟩;rintro e' a' W' ⟨rfl,I,M⟩;simp only[Ex.FJ,Cc,b7];exact⟨A,I,M⟩
     .rename_i Z;have fe:T≠id:=by intro e';subst e';rw[Hz]at Z;cases Z
      obtain⟨rfl,rfl,rfl,rfl,rfl⟩:=dv.inj (e:= .fW T) J d;refine⟨o.1,o.2.1,λF w i g W a v=>wpIn_block<|wpIn_mono (o.2.2 F w i.block g W a v) ?_⟩;rintro e' a' W' ⟨rfl,I,M⟩;simp only[Ex.FJ,Cc,fe,bL];exact⟨A,I,M⟩
    |ret=>
     simp only[dv]at q
     rw[q]at d
     obtain⟨rfl,rfl,rfl,rfl,rfl⟩:=dv.inj (e:= .ret) J d
     refine⟨o.1,o.2.1,λF w i g W a v=>wpIn_block<|wpIn_mono (o.2.2 F w i.block g W a v) ?_⟩
     rintro e' a' W' ⟨rfl,I,M⟩
     exact⟨J,I,M⟩
  |loop x=>
   have step:∀D t0 C R K,dv (im P tt dw (D+1) dep n U (.loop x) t0 C R K) e t' H k' L->dv (match im P tt dw D dep n U x t0 C R K with| .dc E s G u=>im P tt dw D dep n U (.loop x) E s G u|aV=>aV) e t' H k' L:=λ_ _ _ _ _ h=>h
   have amd:∀D,D<=f+1->∀t0 C R K,U<=R->dB dep n t0 R->eP C R->dv (im P tt dw D dep n U (.loop x) t0 C R K) e t' H k' L->Left U dep n t0 C R K t' H k' L:=by
    intro D;induction D with
    |zero=>intro _ t0 C R K _ _ _ S;exact(mE S).elim
    |succ D ihf=>
     intro hf t0 C R K rA MJ MK S
     have d:=step D t0 C R K S
     rcases dv.get (r:=im P tt dw D dep n U x t0 C R K)with q|⟨e1,E,s,G,u,q⟩
     .rw[q]at d;exact(mE d).elim
     .have o:=SI D O _ _ _ _ _ _ _ _ _ _ _ _ _ hn rA MJ MK q;cases e1 with
      |dc=>
       simp only[dv]at q
       rw[q]at d
       exact o.1.trans<|ihf O E s G u (bQ rA o.1.le) o.1.dB o.1.eP d
      |fW id=>
       simp only[dv]at q
       rw[q]at d
       obtain⟨rfl,rfl,rfl,rfl,rfl⟩:=dv.inj (e:= .fW id) J d
       exact o.1
      |ret=>
       simp only[dv]at q
       rw[q]at d
       obtain⟨rfl,rfl,rfl,rfl,rfl⟩:=dv.inj (e:= .ret) J d
       exact o.1
   have hL:=amd (f+1) (aW _) t Q k wl z X j h
   refine⟨hL,hL.le,λF w i g W a v=>?_⟩
   refine abb (λ(y:Y×(Tr×Ms)×Y×V Y) a W=>y.1<=f+1/\U<=y.2.2.1/\dB dep n y.2.1.1 y.2.2.1/\eP y.2.1.2 y.2.2.1/\dv (im P tt dw y.1 dep n U (.loop x) y.2.1.1 y.2.1.2 y.2.2.1 y.2.2.2) e t' H k' L/\∃g,br F (·<y.2.2.1) (a7 dep n y.2.1.1 y.2.1.2.flatten).kn g W a) (λy=>y.1) (f+1,(t,Q),k,wl) ⟨aW _,z,X,j,h,g,v⟩ ?_
   rintro⟨D,⟨t0,C⟩,R,K⟩ a W ⟨hf,rA,MJ,MK,S,g,v⟩
   simp only at hf rA MJ MK S v⊢
   cases D with
   |zero=>exact(mE S).elim
   |succ D=>
    have d:=step D t0 C R K S
    rcases dv.get (r:=im P tt dw D dep n U x t0 C R K)with q|⟨e1,E,s,G,u,q⟩
    .rw[q]at d;exact(mE d).elim
    .have o:=SI D O _ _ _ _ _ _ _ _ _ _ _ _ _ hn rA MJ MK q;refine wpIn_mono (o.2.2 F w i.loop g W a v) ?_;rintro e' a' W' ⟨rfl,I,M⟩;cases e1 with
     |dc=>
      simp only[dv]at q
      rw[q]at d
      exact⟨(D,(E,s),G,u),⟨by simp only;omega,bQ rA o.1.le,o.1.dB,o.1.eP,d,I,M⟩,ax⟩
     |fW id=>
      simp only[dv]at q
      rw[q]at d
      obtain⟨rfl,rfl,rfl,rfl,rfl⟩:=dv.inj (e:= .fW id) J d
      exact⟨J,I,M⟩
     |ret=>
      simp only[dv]at q
      rw[q]at d
      obtain⟨rfl,rfl,rfl,rfl,rfl⟩:=dv.inj (e:= .ret) J d
      exact⟨J,I,M⟩
  |region id ops draw=>
   have nX:vg P (sa P tt dw<|im P tt dw f):=SG bW y5 ih
   have d:dv (match Mp dep n ops.toList draw with
    |some (gs,none)=>(match u5 (sa P tt dw<|im P tt dw f) tt n U gs t Q k wl with
     | .ok E s G u _=> .dc E s G u
     | .no=> .no)
    |some (gs,ad ps)=>(match xa (sa P tt dw<|im P tt dw f) tt n U gs t Q k wl []with
     | .ok E s G u fs=>(match DR fs.reverse ps with
      |true=> .dc E s G u
      |false=> .no)
     | .no=> .no)
    |none=> .no) e t' H k' L:=h
   split at d
   .rename_i gs hc;split at d
    .rename_i E s G u ft hrt;obtain⟨rfl,rfl,rfl,rfl,rfl⟩:=dv.inj (e:= .dc) J d;let ⟨fs',fc⟩:=aaZ hrt [];exact abd jT bW nX hn hc z X j fc (λl hl=>by cases hl) id
    .exact(mE d).elim
   .rename_i gs ps hc;split at d
    .rename_i E s G u fs fc;split at d
     .rename_i hpk;obtain⟨rfl,rfl,rfl,rfl,rfl⟩:=dv.inj (e:= .dc) J d;exact abd jT bW nX hn hc z X j fc (λl hl=>by cases hl;exact hpk) id
     .exact(mE d).elim
    .exact(mE d).elim
   .exact(mE d).elim
  |rangeFunc _ _ _ _=>exact(mE h).elim
  |scope _=>exact(mE h).elim
  |label _=>exact(mE h).elim
  |goto _=>exact(mE h).elim
  |refuse _=>exact(mE h).elim
end
def HN(s:Y)(a:FH)(W:cE):FH:=λb o=>if b<s then a b o else W.cell? ⟨b,o,none⟩
section
variable{P:bS}{tt:TT}
def SJ{f}{vs}{aV r'}{q}{k'}(p:CX P f vs [] 0 aV q k')(hm:cF vs=[])(hr:r'.ak=[])(ha:Bd (λa=>S a q) aV r'=ae):r P f vs r':=by
 refine⟨p.call,hr,?_⟩;intro H W B C g;have F:=xM g;have O:br {w0:=W,H0:=H,n:=Z vs} (·<0) (St.kn ⟨dr 0 vs,[],0,[]⟩) ⟨H,jI⟩ W (me B):=by
  refine⟨by simp[me,F],J,?_,?_,?_,?_,?_,C,⟨J,J,J,aW _,λ_ _ _=>rfl⟩,cD.refl _,λ_ _ _ _=>rfl,λ_ p=>absurd p<|Ch _⟩
  .intro t v I;simp only[St.kn,cu]at I;let ⟨x,l,he⟩:=I;cases he;let ⟨_,u,hu,hr,_⟩:=mW vs B 0 g t v l;have w:B[t]? =ad u:=vN;simp only[me,nQ,tW,w,pS];exact hr
  .intro a b i;simp[St.kn,S]at i
  .intro a R b b' M i;simp[St.kn,S]at i
  .intro z x l a A;cases z with
   |m j=>simp[St.kn,S]at l
   |s t=>
    simp only[St.kn,cu]at l
    let ⟨y,T,he⟩:=l
    subst he
    let ⟨_,_,_,_,Y⟩:=mW vs B 0 g t y T
    have:=Y a A
    rw[hm]at this
    cases this
  .intro a x l;simp[St.kn,S]at l
 refine(p.spec _ _ W B J F O).mono ?_;rintro e c ⟨v,K,rfl,d⟩;have L:∀b o,b<W.heap.size->K.H b o=H b o:=λb o i=>d.fresh b o i<|λp=>p
 have N:vd (HN W.heap.size H c) K c (λa=>S a q):=by
  refine⟨?_,?_⟩
  .intro b o u hu;unfold HN;split
   .rename_i i;rw[<-L b o i];exact hu
   .exact d.sub b o u hu
  .intro a E D hl;have l:∃b,∃vs rest:V aO,cz (K.γ a)=ad b/\c.heap[b]? =ad (.cells (vs++rest).toArray E (0,0))/\aR K D vs/\W.heap.size<=b:=by
    rcases hl with⟨sz,hl⟩|hl
    .let ⟨b,ws,rest,Q,U,X,k,_⟩:=d.cL a (.box E sz D) zQ;exact⟨b,ws,rest,Q,U,X,by rcases k with k|k;exact k;exact k.elim⟩
    .let ⟨b,ws,rest,Q,U,X,k,_⟩:=d.cL a (.fz E D) zQ;exact⟨b,ws,rest,Q,U,X,by rcases k with k|k;exact k;exact k.elim⟩
   let ⟨b,ws,rest,Q,U,X,G⟩:=l;exact⟨b,ws,rest,Q,λo=>by simp only[HN,Nat.not_lt.2 G,bL],U,X⟩
 have G:=d.eE 0 aV (by simp[St.kn,S]);have h2:bA K aV v:=by simpa[me]using G
 refine⟨v,HN W.heap.size H c,J,aaE N ha h2,λb o u hu=>N.le b o u<|d.le b o u hu,λb o i=>by simp[HN,i],?_,⟨d.below.os,d.below.tape,d.below.output,d.below.size,λM hk=>d.below.block M hk<|λp=>p⟩⟩;intro b o u hu;unfold HN at hu;split at hu
 .rename_i i;rw[<-L b o i]at hu;exact d.sub b o u hu
 .exact hu
def abg(a:AV):Cr->Bool
 | .ok d ms _ _=>Bd (λe=>S e ms.flatten) d a
 |_=>ah
def amh{a:jA->V AV->Ms->ar (V AV×AV)}(l:P.follows .mixedOrders=ae)(e:b8 P tt=ae)(d:∀f vs p g m,a f vs p=ad (g,m)->r P f g m) fuel{f}{vs}{n}
  (i:abg n (sa P tt a (im P tt a fuel) f vs [] 0)=ae) (hm:cF vs=[]) (q:n.ak=[]):r P f vs n:=by
 cases hx:sa P tt a (im P tt a fuel) f vs [] 0 with
 |ok m p k wl=>
  rw[hx]at i
  have o:=(SG e d<|D3 l e d fuel).ok hx (λs b t=>by simp[bu]at t)<|λs eF=>BW
  exact SJ o.1 hm q i
 |_=>rw[hx]at i;cases i
end
def eK.re(F:eK)(W:cE)(g:Gh)(k:Y):eK:={F with w0:=W,H0:=g.H,own:=λb=>F.N b/\∀o:Obj,W.heap[b]? =ad o->o.isCells=ae,k0:=k,γ0:=g.γ}
def aE.isM:aE->Bool
 | .mp _ _ _=>ae
 | .it _ _ _=>ae
 |_=>ah
def fB.reM{q s:Y->Prop}{g}{W}{v}{a}(t:∀(x:Y)(vs:Array aO)(o:TypeId)(p:Y×Y),W.heap[x]? =ad (.cells vs o p)->q x->s x)(B:∀(x:Y),a.isM=ae->q x->s x)(k:fB q g W v a):fB s g W v a:=by
 cases a with
 |box o sz cs=>
  let ⟨a,vs,rest,e,hh,l,d,i⟩:=k
  exact⟨a,vs,rest,e,hh,l,t _ _ _ _ hh d,i⟩
 |vec o T xs=>
  rcases k with k|⟨a,cap,vs,e,hh,F,h2,u,H,d,i⟩
  .exact .inl k
  .exact .inr ⟨a,cap,vs,e,hh,F,h2,u,H,t _ _ _ _ hh d,i⟩
 |gM f first C=>exact k
 |fz o cs=>
  let ⟨a,vs,rest,e,hh,l,d,i⟩:=k
  exact⟨a,vs,rest,e,hh,l,t _ _ _ _ hh d,i⟩
 |mp L P xs=>
  let ⟨r,es,e,hh,l,d,i⟩:=k
  exact⟨r,es,e,hh,l,B _ J d,i⟩
 |it m n seen=>
  let ⟨r,a,e,K,hh,d,i⟩:=k
  exact⟨r,a,e,K,hh,B _ J d,i⟩
def SK(a:Kn):Prop:=∀d b,b.isM=ae->a (.m d)≠ad (.b b)
section
variable{F:eK}{k k':Y}{σ σ':Kn}{g g':Gh}{W W':cE}{a a':Act}
def br.re(d:br F (·<k) σ g W a)(e:SK σ):br (F.re W g k) (·<k) σ g W a:=by refine⟨d.size,d.defers,d.eE,λf b l=>(d.cL f b l).reM ?_<|λ_ m=>(e f b m l).elim,d.inj,d.ak,d.dQ,d.sub,⟨J,J,J,aW _,λ_ _ _=>rfl⟩,cD.refl _,λ_ _ _ _=>rfl,λf i=>⟨i,J⟩⟩;intro x vs E p n q;refine .inr ⟨q,λo ho=>?_⟩;rw[n]at ho;cases ho;rfl
def br.un(e:br F (·<k) σ g W a)(d:br (F.re W g k) (·<k') σ' g' W' a'):
  br F (·<k') σ' g' W' a'/\KeepsOthers W W'/\fP (·<k) g g':=by
 refine⟨⟨d.size,d.defers,d.eE,λn b t=>(d.cL n b t).reM ?_ ?_,d.inj,d.ak,d.dQ,d.sub,?_,e.le.trans d.le,?_,?_⟩,?_,d.le,λn m=>(d.fS n m).2⟩
 .intro x vs E p B f;rcases f with f|f
  .exact .inl<|bQ e.below.size f
  .exact f.1
 .intro x _ f;rcases f with f|f
  .exact .inl<|bQ e.below.size f
  .exact f.1
 .refine⟨d.below.os.trans e.below.os,d.below.tape.trans e.below.tape,d.below.output.trans e.below.output,bQ e.below.size d.below.size,λj q i=>?_⟩;rw[<-e.below.block j q i];refine d.below.block j (hP q e.below.size)<|λs=>?_;rcases s.1 with l|l
  .omega
  .exact i l
 .intro b o t i;rw[<-e.fresh b o t i];refine d.fresh b o (hP t e.below.size)<|λs=>?_;rcases s.1 with l|l
  .omega
  .exact i l
 .intro n m;have l:=e.fS n m;have u:=d.fS n l.1;exact⟨u.1,u.2.trans l.2⟩
 .refine⟨d.below.size,λj o q v=>?_⟩;rw[<-q];refine d.below.block j (fT.1 q).1<|λs=>?_;rw[s.2 o q]at v;cases v
def SL:Obj->Bool
 | .cells .. =>ae
 | .map .. =>ae
 | .mapIter .. =>ae
 |_=>ah
def ami{o:Obj}(d:o.isCells=ae):SL o=ae:=by cases o<;>first|rfl|cases d
structure WX(B:Y)(W W':cE):Prop where
 os:W'.os=W.os
 tape:W'.tape=W.tape
 output:W'.output=W.output
 size:W.heap.size<=W'.heap.size
 same:∀(k:Y)(o:Obj),W.heap[k]? =ad o->SL o=ae\/k<B->W'.heap[k]? =ad o
def br.wx{l:Y->Prop}(d:br F l σ g W a)(p:WX F.w0.heap.size W W'):br F l σ g W' a:=by
 refine⟨d.size,d.defers,d.eE,λL b P=>?_,d.inj,d.ak,d.dQ,?_,⟨p.os.trans d.below.os,p.tape.trans d.below.tape,p.output.trans d.below.output,bQ d.below.size p.size,λj u x=>?_⟩,d.le,d.fresh,d.fS⟩
 .have i:=d.cL L b P;cases b with
  |box E sz cs=>
   let ⟨b,vs,rest,e,hh,i,q,s⟩:=i
   exact⟨b,vs,rest,e,p.same _ _ hh<|.inl J,i,q,s⟩
  |vec E T xs=>
   rcases i with d|⟨b,cap,vs,e,hh,Q,h2,B,U,q,s⟩
   .exact .inl d
   .exact .inr ⟨b,cap,vs,e,p.same _ _ hh<|.inl J,Q,h2,B,U,q,s⟩
  |gM f first C=>exact i
  |fz E cs=>
   let ⟨b,vs,rest,e,hh,i,q,s⟩:=i
   exact⟨b,vs,rest,e,p.same _ _ hh<|.inl J,i,q,s⟩
  |mp z A xs=>
   let ⟨r,es,e,hh,i,q,s⟩:=i
   exact⟨r,es,e,p.same _ _ hh<|.inl J,i,q,s⟩
  |it m n seen=>
   let ⟨r,b,e,X,hh,q,s⟩:=i
   exact⟨r,b,e,X,p.same _ _ hh<|.inl J,q,s⟩
 .intro b o v c;have H:=d.sub b o v c;let ⟨D,K,w⟩:=cells_of_cell H;rw[<-H];exact World.cell?_of_block<|(p.same _ _ K<|.inl<|ami w).trans K.symm
 .have y:j<W.heap.size:=hP u d.below.size;have t:W.heap[j]? =ad W.heap[j]:=Oq y;rw[p.same j _ t (.inr u),<-d.below.block j u x,t]
def WX.refl B W:WX B W W:=⟨J,J,J,aW _,λ_ _ h _=>h⟩
def WX.trans{B}{f C i}(d:WX B f C)(e:WX B C i):WX B f i:=
 ⟨e.os.trans d.os,e.tape.trans d.tape,e.output.trans d.output,bQ d.size e.size,λk o m l=>e.same k o (d.same k o m l) l⟩
def WX.alloc B W(o:Obj):WX B W (W.alloc o):=
 ⟨J,J,J,ax,λk _ d _=>(Below.heap_alloc W o k (fT.1 d).1).trans d⟩
def WX.putObj{B}{W}{l}{o:Obj}(m:Obj)(n:W.heap[l]? =ad o)(p:SL o=ah)(q:B<=l):WX B W (W.putObj l m):=
 ⟨J,J,J,ax,λk s f d=>by
  have i:k≠l:=by
   intro e;subst e;rw[n]at f;cases f;rcases d with d|d
   .rw[p]at d;cases d
   .omega
  rw[ML i];exact f⟩
def Gh.new(g:Gh)(k:Y)(u:aO):Gh:=⟨g.H,λd=>if d=k then u else g.γ d⟩
def br.amj(d:br F (·<k) σ g W a) u:br F (·<k+1) σ (g.new k u) W a:=by
 have i:=d.step (chg:=λ_=>False) (g':=g.new k u) (W':=W) (a':=a) ⟨⟨cD.refl _,λf e=>by have:f≠k:=Nat.ne_of_lt e;simp[Gh.new,this]⟩,λ_ _ _=>rfl,d.sub,aW _,λ_ _ _=>rfl,J,J,J⟩ [] k (Nat.lt_irrefl k) J d.defers (λ_ _=>rfl) (λ_ d=>d.elim) (λ_ _ d=>by simp[aC]at d) (λ_ _ d=>by simp[aC]at d) (λ_ _ d=>by simp[aC]at d) (λ_ _ d=>by simp[aC]at d);refine i.weaken ?_;rintro f (e|rfl)
 .exact MC e
 .exact dJ _
end
section
variable{F:eK}{k k':Y}{g g':Gh}{W W':cE}{a a':Act}{dep n abj n':Y}{t t':Tr}{m m':Mem}{ds MM:V HT}{rd SM:ar Y}
def br.swap{u}(l:br {F with n:=u,ds:=ds,rd:=rd} (·<k) (a7 dep n t m).kn g W a)(e:br {F with n:=n',ds:=MM,rd:=SM} (·<k') (a7 abj n' t' m').kn g' W' a')(H:k<=k')(L:fP (·<k) g g'):
  br {F with n:=u,ds:=ds,rd:=rd} (·<k') (a7 dep n t m').kn g' W' a:=by
 have o:∀d x,(a7 dep n t m').kn (.m d)=ad x->(a7 abj n' t' m').kn (.m d)=ad x:=λd x i=>i
 refine⟨l.size,l.defers,λs v B=>?_,λd b C=>e.cL d b<|o _ _ C,λd p b K P Q U X c=>e.inj d p b K P (o _ _ Q) (o _ _ U) X c,λq x i d f=>?_,λd x i=>e.dQ d x<|o _ _ i,e.sub,e.below,e.le,e.fresh,e.fS⟩
 .exact bA.mono L (λd f=>l.ak (.s s) (.v v) B d f)<|l.eE s v B
 .cases q with
  |s j=>exact hP (l.ak (.s j) x i d f) H
  |m j=>exact e.ak (.m j) x (o _ _ i) d f
def br.defer{d:Y->Prop}{f}{i}(e:br {F with n:=i,ds:=ds,rd:=rd} d f g W a) MM SM:br {F with n:=i,ds:=MM,rd:=SM} d f g W {a with defers:=MM}:=
 ⟨e.size,J,e.eE,e.cL,e.inj,e.ak,e.dQ,e.sub,e.below,e.le,e.fresh,e.fS⟩
def br.abk{p}(f:br {F with n:=p,ds:=ds,rd:=rd} (·<k) (a7 dep n t m).kn g W a)(hn:n<=4^dep)(B:p=n){d}(hd:d<n){v}{u}(hv:bA g v u)(H:∀l∈v.ak,l<k):
  br {F with n:=p,ds:=ds,rd:=rd} (·<k) (a7 dep n (jk (cP dep d) v t) m).kn g W {a with tmps:=a.tmps.setIfInBounds d u}:=by
 subst B
 have C:=DL dep p t m d v hn hd
 have q:∀s x,(a7 dep p (jk (cP dep d) v t) m).kn (.s s)=ad (.v x)->(s=d/\x=v)\/(s≠d/\(a7 dep p t m).kn (.s s)=ad (.v x)):=by
  intro s x i;rw[C]at i;by_cases e:s=d
  .subst e;simp[bq,aC]at i;exact .inl ⟨J,i.symm⟩
  .have K:d≠s:=λf=>e f.symm
   simp[bq,aC,K]at i;exact .inr ⟨e,i⟩
 have X:∀l,(a7 dep p (jk (cP dep d) v t) m).kn (.m l)=(a7 dep p t m).kn (.m l):=λ_=>rfl
 refine⟨by simpa using f.size,f.defers,λs x c=>?_,λl b r=>f.cL l b r,λl L b w z A D E G=>f.inj l L b w z A D E G,λP x i l o=>?_,λl x i=>f.dQ l x i,f.sub,f.below,f.le,f.fresh,f.fS⟩
 .rcases q s x c with⟨rfl,rfl⟩|⟨Q,i⟩
  .have U:s<a.tmps.size:=by rw[f.size];exact hd
   simpa[U]using hv
  .have K:d≠s:=λf=>Q f.symm
   have:=f.eE s x i;simpa[lC K]using this
 .cases P with
  |m j=>exact f.ak (.m j) x i l o
  |s j=>
   cases x with
   |b _=>simp[a7,St.kn]at i
   |v y=>
    rcases q j y i with⟨_,rfl⟩|⟨_,i⟩
    .exact H l o
    .exact f.ak (.s j) _ i l o
end
section
variable{P:bS}{F:eK}{n:Y}{c:gH}{st st':St}{k k':Y}{e:Ex}{g:Gh}{W:cE}{a:Act}
def FK.v7(q:FK P n c st k e st' k')(s:F.n=n)(f:mh F.rd c)(m:br F (·<k) st.kn g W a)(i:SK st.kn):
  c.wpIn (fC F.rd) 0 P (λo p l=>o=e.FJ/\∃d,br F (·<k') st'.kn d l p/\KeepsOthers W l/\fP (·<k) g d) a W:=by
 refine wpIn_mono (q.2 (F.re W g k) s f g W a<|m.re i) ?_
 rintro o p l ⟨rfl,d,t⟩
 exact⟨J,d,m.un t⟩
end
inductive iq(S:Type) where
 |no
 |dc (s:S)
 |fW (a:Y) (s:S)
 |ret (s:S)
def iq.post{f:Type}(d:f->Act->cE->Prop):iq f->Exit->Act->cE->Prop
 | .dc s,e,a,W=>e= .normal/\d s a W
 | .fW id s,e,a,W=>e= .exit id/\d s a W
 | .ret s,e,a,W=>e= .ret/\d s a W
 | .no,_,_,_=>False
section
variable{S:Type}(leaf:gH->S->iq S)(ev:dS->S->ar Bool)
noncomputable def SN(a:gH->S->iq S)(x d:gH)(s:S):iq S:=match a x s with
 | .dc s1=>a d s1
 |r=>r
noncomputable def SO(a:gH->S->iq S)(d:dS)(x e:gH)(s:S):iq S:=match ev d s with
 |some b=>(match b with
  |true=>a x s
  |false=>a e s)
 |none=> .no
noncomputable def SP(d:gH->S->iq S)(e:Y)(x:gH)(s:S):iq S:=match d x s with
 | .fW a s1=>(match gG a e with
  |true=> .dc s1
  |false=> .fW a s1)
 |r=>r
noncomputable def SQ(a:gH->S->iq S)(x:gH)(s:S):iq S:=match a x s with
 | .dc s1=>a (.loop x) s1
 |r=>r
noncomputable def amk(a:gH->S->iq S):gH->S->iq S
 | .skip=> .dc
 | .label _=> .dc
 | .exit id=> .fW id
 | .ret=> .ret
 | .seq x d=>SN a x d
 | .cond e x d=>SO ev a e x d
 | .block id x=>SP a id x
 | .scope x=>a x
 | .loop x=>SQ a x
 |e=>leaf e
noncomputable def gen(a:Y):gH->S->iq S:=Nat.rec (motive:=λ_=>gH->S->iq S) (λ_ _=> .no) (λ_ d=>amk leaf ev d) a
end
section
variable{P:bS}{Fe:Fence}{n:Y}{Q:Exit->Act->cE->Prop}{a:Act}{w:cE}
def aml{i}(B:i.wpIn Fe n P (Exit.noGoto Q) a w):(Code.scope i).wpIn Fe n P Q a w:=by
 intro b k m s t u;have o:step P (lone (b.atR a<|.code (.scope i)::k) m w)= .next (lone (b.atR a<|.code i:: .inScope i::k) m w):=step_lone_go (by simp[Go.stepG,amm,Frame.atR])
 have s2:∀a w,step P (lone (b.atR a<|.inScope i::k) m w)= .next (lone (b.atR a k) m w):=λa w=>step_lone_go (by simp[Go.stepG,amm,Frame.atR])
 have p:(lone (b.atR a<|.code (.scope i)::k) m w).fenced P Fe:=fenced_calm t u J;let ⟨e,f,g,q,d⟩:=B b (.inScope i::k) m s t u;cases e with
 |normal=>exact⟨.normal,f,g,q,.head p o<|StepsIn.trans d<|.one (fenced_calm t u J)<|s2 _ _⟩
 |exit id=>
  refine⟨.exit id,f,g,q,λC v=> .head p o (d.1 C<|by simp[exitTo,v]),λx v=>?_⟩
  let ⟨k₁,F,h2⟩:=d.2 x (by simp[exitTo,v])
  exact⟨k₁,F,.head p o h2⟩
 |goto l=>exact q.elim
 |ret=>exact⟨_,f,g,q,.of_steps (.one p o) d⟩
 |panic ch=>exact⟨_,f,g,q,.of_steps (.one p o) d⟩
 |outgrown=>exact⟨_,f,g,q,.of_steps (.one p o) d⟩
end
section
variable{P:bS}{Fe:Fence}{S:Type}{leaf:gH->S->iq S}{ev:dS->S->ar Bool}{I:S->Act->cE->Prop}
def abl(k:∀o s d,leaf o s=d->d≠ .no->∀a W,I s a W->o.wpIn Fe 0 P (d.post I) a W)
  (U:∀o s F,ev o s=ad F->∀a W,I s a W->a.eval o= .bool F):
  ∀(l:Y)(o:gH)(s:S)(d:iq S),gen leaf ev l o s=d->d≠ .no->∀a W,I s a W->o.wpIn Fe 0 P (d.post I) a W:=by
 intro l
 induction l using Eu with
 |_ l H=>
 cases l with
 |zero=>intro o s d h m;exact absurd h.symm m
 |succ f=>
  have q:=H f O
  intro o s d h m a W g
  cases o with
  |skip=>have h:iq.dc s=d:=h;subst h;exact wpIn_skip ⟨J,g⟩
  |label _=>have h:iq.dc s=d:=h;subst h;exact wpIn_label ⟨J,g⟩
  |exit id=>have h:iq.fW id s=d:=h;subst h;exact wpIn_exit ⟨J,g⟩
  |ret=>have h:iq.ret s=d:=h;subst h;exact wpIn_ret ⟨J,g⟩
  |seq x y=>
   have h:SN (gen leaf ev f) x y s=d:=h
   unfold SN at h
   refine wpIn_seq ?_
   cases hx:gen leaf ev f x s with
   |no=>rw[hx]at h;exact absurd h.symm m
   |dc s1=>
    rw[hx]at h
    refine wpIn_mono (q x s _ hx ax a W g) ?_
    rintro e t u ⟨rfl,i⟩
    exact q y s1 d h m t u i
   |fW id s1=>
    rw[hx]at h
    subst h
    refine wpIn_mono (q x s _ hx ax a W g) ?_
    rintro e t u ⟨rfl,i⟩
    exact⟨J,i⟩
   |ret s1=>
    rw[hx]at h
    subst h
    refine wpIn_mono (q x s _ hx ax a W g) ?_
    rintro e t u ⟨rfl,i⟩
    exact⟨J,i⟩
  |cond v x y=>
   have h:SO ev (gen leaf ev f) v x y s=d:=h
   unfold SO at h
   cases hc:ev v s with
   |none=>rw[hc]at h;exact absurd h.symm m
   |some F=>
    rw[hc]at h
    have j:=U v s F hc a W g
    cases F with
    |true=>exact wpIn_cond_split j (λ_=>q x s d h m a W g)<|λe=>ve
    |false=>exact wpIn_cond_split j (λe=>ve)<|λ_=>q y s d h m a W g
  |block id x=>
   have h:SP (gen leaf ev f) id x s=d:=h
   unfold SP at h
   refine wpIn_block ?_
   cases hx:gen leaf ev f x s with
   |no=>rw[hx]at h;exact absurd h.symm m
   |dc s1=>
    rw[hx]at h
    subst h
    refine wpIn_mono (q x s _ hx ax a W g) ?_
    rintro e t u ⟨rfl,i⟩
    exact⟨J,i⟩
   |fW K s1=>
    rw[hx]at h
    dsimp only at h
    refine wpIn_mono (q x s _ hx ax a W g) ?_
    rintro e t u ⟨rfl,i⟩
    cases p:gG K id with
    |true=>
     rw[p]at h
     subst h
     have:=kI p
     subst this
     simp only[Cc,b7]
     exact⟨J,i⟩
    |false=>
     rw[p]at h
     subst h
     have X:K≠id:=by intro w;subst w;rw[Hz]at p;cases p
     simp only[Cc,X,bL]
     exact⟨J,i⟩
   |ret s1=>
    rw[hx]at h
    subst h
    refine wpIn_mono (q x s _ hx ax a W g) ?_
    rintro e t u ⟨rfl,i⟩
    exact⟨J,i⟩
  |scope x=>
   have h:gen leaf ev f x s=d:=h
   refine aml<|wpIn_mono (q x s d h m a W g) ?_
   intro e t u Q
   cases d with
   |no=>exact Q.elim
   |dc s1=>obtain⟨rfl,i⟩:=Q;exact⟨J,i⟩
   |fW id s1=>obtain⟨rfl,i⟩:=Q;exact⟨J,i⟩
   |ret s1=>obtain⟨rfl,i⟩:=Q;exact⟨J,i⟩
  |loop x=>
   refine abb (λ(y:Y×S) a W=>y.1<=f+1/\gen leaf ev y.1 (.loop x) y.2=d/\I y.2 a W) (λy=>y.1) (f+1,s) ⟨aW _,h,g⟩ ?_
   rintro⟨C,L⟩ a W ⟨z,n,g⟩
   simp only at z n g⊢
   cases C with
   |zero=>exact absurd n.symm m
   |succ C=>
    have n:SQ (gen leaf ev C) x L=d:=n
    unfold SQ at n
    have B:=H C O
    cases hx:gen leaf ev C x L with
    |no=>rw[hx]at n;exact absurd n.symm m
    |dc s1=>
     rw[hx]at n
     refine wpIn_mono (B x L _ hx ax a W g) ?_
     rintro e t u ⟨rfl,i⟩
     exact⟨(C,s1),⟨by simp only;omega,n,i⟩,ax⟩
    |fW id s1=>
     rw[hx]at n
     subst n
     refine wpIn_mono (B x L _ hx ax a W g) ?_
     rintro e t u ⟨rfl,i⟩
     exact⟨J,i⟩
    |ret s1=>
     rw[hx]at n
     subst n
     refine wpIn_mono (B x L _ hx ax a W g) ?_
     rintro e t u ⟨rfl,i⟩
     exact⟨J,i⟩
  |region id ops draw=>exact k _ s d h m a W g
  |rangeFunc _ _ _ _=>exact k _ s d h m a W g
  |goto _=>exact k _ s d h m a W g
  |refuse _=>exact k _ s d h m a W g
end
section
variable{P:bS}{tt:TT}{dw:jA->V AV->Ms->ar (V AV×AV)}
def SS(bW:b8 P tt=ae){l:lS}(p:vg P l){dep n:Y}(hn:n<=4^dep){ops:Array aX}:∀(os:V aX)(i:Y){gs:V GI}{t:Tr}{q:Ms}{k:Y}{H:V Y}{s:Tr}{d:Ms}{m:Y}{e:V Y}{f:Ft},
  u5 l tt n 0 gs t q k H= .ok s d m e f->u6 dep n ops.toList os=ad gs->(∀L o,os[L]? =ad o->ops[i+L]? =ad o)->dB dep n t k->eP q k->
  k<=m/\dB dep n s m/\eP d m/\∀(F:eK),F.n=n->zs F.rd ops->∀(Q:Exit->Act->cE->Prop)(rest:V Y) g W a,br F (·<k) (a7 dep n t q.flatten).kn g W a->
   (∀g' W' a',br F (·<m) (a7 dep n s d.flatten).kn g' W' a'->wpOpsIn (fC F.rd) 0 P ops Q rest a' W')->wpOpsIn (fC F.rd) 0 P ops Q (abm i (Z os)++rest) a W
 |[],i,gs,t,q,k,H,s,d,m,e,f,U,hc,_,v,x=>by simp only[u6,au]at hc;subst hc;have h':Rs.ok t q k H .n= .ok s d m e f:=U;simp only[Rs.ok.injEq]at h';obtain⟨rfl,rfl,rfl,rfl,rfl⟩:=h';exact⟨aW _,v,x,λF X B Q rest g W a b c=>c g W a b⟩
 |o::os,i,gs,t,q,k,H,s,d,m,e,f,U,hc,u,v,x=>by
  simp only[u6]at hc;split at hc
  .rename_i A K I r;cases hc;have M:u5 l tt n 0 (A::K) t q k H=match uZ l tt n 0 A t q k H with| .ok s d m e _=>u5 l tt n 0 K s d m e| .no=> .no:=rfl
   rw[M]at U;split at U
   .rename_i t1 N k1 R f1 S;have T:ops[i]? =ad o:=by have:=u 0 o J;simpa using this
    let ⟨⟨ks,⟨rd,wr,w,y,z,hle,_,_⟩,_,D⟩,_⟩:=aaY bW p (a8 _) hn T I v x S;let ⟨E,G,h3,h4⟩:=SS bW p hn os (i+1) U r (λL o' hj=>by have:=u (L+1) o' nt;rwa[(O:i+(L+1)=i+1+L)]at this) D.dB D.eP;refine⟨bQ hle E,G,h3,λF X B Q rest g W a b c=>?_⟩;rw[gQ,IA,lY,wpOpsIn_cons];refine NU (B i) ?_;refine w F X _ (·<k) _ g W a _ (λid E G=>O) b y<|λg' W' a' h'=>?_;rw[<-z]at h';exact h4 F X B Q rest g' W' a' (h'.weaken<|λid C=>by rcases C with C|C<;>omega) c
   .cases U
  .cases hc
noncomputable def ov(dep:Y):V Y->V AV->Tr->Tr
 |p::ps,v::vs,t=>ov dep ps vs<|jk (cP dep p) v t
 |_,_,t=>t
def qR:V Y->V aO->Array aO->Array aO
 |p::ps,u::us,a=>qR ps us<|a.setIfInBounds p u
 |_,_,a=>a
def abn:∀(ps:V Y)(d:V aO)(a:Array aO),(ps.zip d).foldl (λe(t,a)=>e.setIfInBounds t a) a=qR ps d a
 |[],d,a=>by simp[qR]
 |p::ps,[],a=>by simp[qR]
 |p::ps,u::d,a=>by simp only[List.zip_cons_cons,IX,qR];exact abn ps d<|a.setIfInBounds p u
def amn(ps:V Y)(e:V aO)(a:Array aO):(ps.toArray.zip e.toArray).foldl (λd(t,a)=>d.setIfInBounds t a) a=qR ps e a:=by rw[List.zip_toArray,<-abn];simp
noncomputable def MN(dep:Y)(t:Tr):V Y->ar (V AV)
 |[]=>ad []
 |x::xs=>match iZ (cP dep x) t,MN dep t xs with
  |some v,ad vs=>ad<|v::vs
  |_,_=>none
def dB.ov{dep n k:Y}(f:n<=4^dep):∀{ps:V Y}{vs:V AV}{t:Tr},dB dep n t k->(∀p∈ps,p<n)->(∀d∈cF vs,d<k)->dB dep n (ov dep ps vs t) k
 |[],_,_,e,_,_=>by simpa[El.ov]using e
 |_::_,[],_,e,_,_=>by simpa[El.ov]using e
 |p::ps,v::vs,t,e,hp,g=>dB.ov f (ps:=ps) (vs:=vs) (e.set f (hp p ax)<|λd a=>g d<|dY _ a) (λq i=>hp q<|jF _ i)<|λd a=>g d<|fU _ a
def br.ov{F:eK}{o dep n k:Y}{ds:V HT}{rd:ar Y}{m:Mem}{g:Gh}{W:cE}(s:n<=4^dep)(e:o=n):∀{ps:V Y}{vs:V AV}{us:V aO}{t:Tr}{a:Act},br {F with n:=o,ds:=ds,rd:=rd} (·<k) (a7 dep n t m).kn g W a->(∀p∈ps,p<n)->eQ g vs us->(∀f∈cF vs,f<k)->
  br {F with n:=o,ds:=ds,rd:=rd} (·<k) (a7 dep n (ov dep ps vs t) m).kn g W {a with tmps:=qR ps us a.tmps}
 |[],_,_,_,_,i,_,_,_=>by simpa[El.ov,qR]using i
 |_::_,[],us,_,_,i,_,l,_=>by have l:us=[]:=l;subst l;simpa[El.ov,qR]using i
 |p::ps,v::vs,us,t,a,i,hp,l,x=>by obtain⟨u,r,rfl,B,C⟩:=l;exact br.ov s e (ps:=ps) (vs:=vs) (us:=r) (i.abk s e (hp p ax) B<|λf d=>x f<|dY _ d) (λq H=>hp q<|jF _ H) C<|λf d=>x f<|fU _ d
def pJ(fn:jA)(tmps:Array aO)(p:V Y)(a e:gH)(f:Y)(d:ar gH):Loop:=
 {state:=if d.isNone then .ready else .done,pending:=d,fn:=fn,tmps:=tmps,params:=⟨p⟩,assign:=a,body:=e,defers:=f}
structure SY where
 t:Tr
 ms:Ms
 k:Y
 pd:ar gH
noncomputable def D5(a:Ms):Bool:=a.all λm=>m.all λe=>match e.2 with
 | .mp _ _ _=>ah
 | .it _ _ _=>ah
 |_=>ae
def abo{d:Type}{f:Y}{g:d}:∀{m:V (Y×d)},S f m=ad g->(f,g)∈m
 |[],a=>by cases a
 | (i,x)::m,a=>by
  simp only[S]at a;split at a
  .rename_i e;cases a;subst e;exact BJ
  .exact jF _<|abo a
def D6{a}(f:D5 a=ae) dep n t:SK (a7 dep n t a.flatten).kn:=by
 intro p y g e;rw[DJ]at e;simp only[cu,Info.b.injEq]at e;obtain⟨b,i,rfl⟩:=e;have k:=abo i;obtain⟨m,l,o⟩:=List.mem_flatten.1 k;have d:=l6.1 (l6.1 f m l) _ o;cases b with
 |mp q s xs=>cases d
 |it m n seen=>cases d
 |_=>cases g
noncomputable def D7(a:Ms)(d:Rc):Rc:=match D5 a with
 |true=>d
 |false=> .no
def D8{f}{g d:Rc}(a:D7 f g=d)(i:d≠ .no):D5 f=ae/\g=d:=by
 unfold D7 at a;split at a
 .rename_i e;exact⟨e,a⟩
 .exact absurd a.symm i
noncomputable def MQ(a:Ms)(d:Rs):Rs:=match D5 a with
 |true=>d
 |false=> .no
def abp{f}{g d:Rs}(a:MQ f g=d)(i:d≠ .no):D5 f=ae/\g=d:=by
 unfold MQ at a;split at a
 .rename_i e;exact⟨e,a⟩
 .exact absurd a.symm i
noncomputable def MR(P:bS)(tt:TT)(dw:jA->V AV->Ms->ar (V AV×AV))(i a l:Y)(n:Tr)(p:V Y)(g o:gH)(v:V AV)(m:Ms)(k:Y):ar (ar gH×Ms×Y):=
 match D7 m (im P tt dw i a l 0 g (ov a p v n) m k [])with
 | .dc t1 e q _=>(match D7 e (im P tt dw i a l 0 o t1 e q [])with
  | .dc _ d f _=>ad (none,d,f)
  | .fW id _ d f _=>ad (ad<|.exit id,d,f)
  | .ret _ d f _=>ad (ad .ret,d,f)
  | .no=>none)
 |_=>none
def MS:V dS->ar (V Y)
 |[]=>ad []
 | .tmp x::a=>(match MS a with
  |some l=>ad<|x::l
  |none=>none)
 |_::_=>none
def abq:∀{l:V dS}{xs:V Y},MS l=ad xs->l=xs.map abr
 |[],xs,a=>by cases a;rfl
 | .tmp x::e,xs,a=>by
  simp only[MS]at a;split at a
  .rename_i l d;cases a;simp[abq d]
  .cases a
 | .const _::_,_,a=>by cases a
 | .func _::_,_,a=>by cases a
 | .global _::_,_,a=>by cases a
def MU(o:aX):ar (Y×Y×V Y):=match o.dst,o.op with
 |some d,.call ⟨.value<|.tmp j,⟨args⟩,_⟩=>(match MS args with
  |some xs=>ad (d,j,xs)
  |none=>none)
 |_,_=>none
def HU:V aX->Y->V aX->ar (Y×aX×(Y×Y×V Y))
 |_,_,[]=>none
 |all,i,o::os=>match MU o with
  |some q=>ad (i,o,q)
  |none=>HU all (i+1) os
noncomputable def gdY(dep n:Y)(a:V aX)(o:aX)(t:Tr):Bool:=match o.guard with
 |none=>ae
 |some (j,want)=>(match p7 a j with
  |some d=>(match dj d n,iZ (cP dep d) t with
   |true,ad (.c<|.B b)=>b==want
   |_,_=>ah)
  |none=>ah)
noncomputable def abu(P:bS)(tt:TT)(dw:jA->V AV->Ms->ar (V AV×AV))(p dep n q:Y)(u:Y)(f:V AV->Ms->Y->ar (ar gH×Ms×Y))(a:Array aX)(s:SY):iq SY:=
 match HU a.toList 0 a.toList with
 |some (i,o,(d,j,x))=>(match u6 dep n a.toList (h i a.toList),u6 dep n a.toList (az (i+1) a.toList)with
  |some C,ad F=>(match MQ s.ms (u5 (sa P tt dw<|im P tt dw p) tt n 0 C s.t s.ms s.k [])with
   | .ok t1 g H _ _=>(match gdY dep n a.toList o t1&&dj d n&&dj j n&&x.all (λy=>dj y n)&&gG (Z x) u with
    |true=>(match iZ (cP dep j) t1,MN dep t1 x with
     |some (.c<|.X l),ad v=>(match gG l q with
      |true=>(match f v g H with
       |some (pd,e,K)=>(match MQ e (u5 (sa P tt dw<|im P tt dw p) tt n 0 F (jk (cP dep d) (.c<|.B pd.isNone) t1) e K [])with
        | .ok t3 m L _ _=> .dc ⟨t3,m,L,pd⟩
        | .no=> .no)
       |none=> .no)
      |false=> .no)
     |_,_=> .no)
    |false=> .no)
   | .no=> .no)
  |_,_=> .no)
 |none=> .no
noncomputable def SU(P:bS)(tt:TT)(dw:jA->V AV->Ms->ar (V AV×AV))(e dep n f:Y)(g:Y)(a:V AV->Ms->Y->ar (ar gH×Ms×Y))(i:gH)(s:SY):iq SY:=match i with
 | .region id ops draw=>(match D7 s.ms (im P tt dw e dep n 0 (.region id ops draw) s.t s.ms s.k [])with
  | .dc l d m _=> .dc ⟨l,d,m,s.pd⟩
  |_=>(match draw with
   |false=>(match s.pd with
    |none=>abu P tt dw e dep n f g a ops s
    |some _=> .no)
   |true=> .no))
 |_=> .no
noncomputable def SV(dep n:Y)(a:dS)(s:SY):ar Bool:=match il dep n a with
 |some p=>(match jz s.t p with
  |some (.c<|.B b)=>ad b
  |_=>none)
 |none=>none
def IY(F:eK)(dep n d e:Y)(i:Tr)(o:Act)(f:V HT)(m l:Y)(rc:ar gH->Loop)(mk:V Y)(s:SY)(a:Act)(W:cE):Prop:=
 ∃g,dB dep n s.t s.k/\eP s.ms s.k/\dB d e i s.k/\br {F with n:=n,ds:=[],rd:=none} (·<s.k) (a7 dep n s.t s.ms.flatten).kn g W a/\
  br {F with n:=e,ds:=f,rd:=none} (·<s.k) (a7 d e i s.ms.flatten).kn g W o/\m<s.k/\g.γ m= .func (.yield l) #[] #[]/\W.heap[l]? =ad (.loop<|rc s.pd)/\∀D∈mk,W.heap[D]? =ad (.deferred<|ad [])
def abv{all:V aX}:∀{e:V aX}{i a:Y}{o:aX}{q:Y×Y×V Y},HU all i e=ad (a,o,q)->MU o=ad q/\i<=a/\e[a-i]? =ad o
 |[],i,a,o,q,d=>by simp[HU]at d
 |x::e,i,a,o,q,d=>by
  simp only[HU]at d;split at d
  .rename_i l f;simp only[au,bG]at d;obtain⟨rfl,rfl,rfl⟩:=d;exact⟨f,aW _,ax⟩
  .let ⟨g,h2,k⟩:=abv d;refine⟨g,O,?_⟩;rw[(O:a-i=(a-(i+1))+1)];simpa using k
def amo{o}{d i}{x}(a:MU o=ad (d,i,x)):o.dst=ad d/\∃e,o.op= .call ⟨.value<|.tmp i,⟨x.map abr⟩,e⟩:=by
 unfold MU at a;split at a
 .rename_i l m args e k f;split at a
  .rename_i xs g;simp only[au,bG]at a;obtain⟨rfl,rfl,rfl⟩:=a;exact⟨k,e,by rw[f,<-abq g]⟩
  .cases a
 .cases a
def MV{dep n}{t:Tr}{m:Mem}{a}{v}(d:a<n)(e:iZ (cP dep a) t=ad v):(a7 dep n t m).kn (.s a)=ad (.v v):=by rw[DJ];simp[d,e]
variable{F:eK}{dep n nI n0:Y}{t0:Tr}{a0:Act}{ds0:V HT}{kt l:Y}{fnid:jA}{p:V Y}{D:Y}{nj bd:gH}{mk:V Y}
def amp(jT:P.follows .mixedOrders=ae)(bW:b8 P tt=ae)(L:∀f vs ms lU aV,dw f vs ms=ad (lU,aV)->r P f lU aV) fu(x:n0<=4^nI)(hp:∀q∈p,q<n0)(HV:nB nj=ae)(HW:nB bd=ae)(hl:F.w0.heap.size<=l)(uk:l∉mk)
 {v}{ms m}{k k'}{pd}(s:MR P tt dw fu nI n0 t0 p nj bd v ms k=ad (pd,m,k'))
  (y6:dB nI n0 t0 k) (jl:eP ms k) {g}{W}(hh:br {F with n:=n0,ds:=ds0,rd:=none} (·<k) (a7 nI n0 t0 ms.flatten).kn g W a0) {u}(hv:eQ g v u) (z9:∀id∈cF v,id<k)
  (amq:W.heap[l]? =ad (.loop<|pJ fnid a0.tmps p nj bd D none)) (nP:∀D∈mk,W.heap[D]? =ad (.deferred<|ad []))
  {p':Ending->cE->Prop} (hR:∀g' W',k<=k'->eP m k'->br {F with n:=n0,ds:=ds0,rd:=none} (·<k') (a7 nI n0 t0 m.flatten).kn g' W' a0->fP (·<k) g g'->W'.heap[l]? =ad (.loop<|pJ fnid a0.tmps p nj bd D pd)->(∀D∈mk,W'.heap[D]? =ad (.deferred<|ad []))->p' (.returned<|.bool pd.isNone) W'):
  RoundIn (fC none) 0 P l fnid (qR p u a0.tmps) nj bd W p':=by
 unfold MR at s
 split at s
 .rename_i t1 B k1 Sy h1;obtain⟨Bj,h1⟩:=D8 h1 ax;have t:∀(e:Ex) C d,D5 B=ae->dv (im P tt dw fu nI n0 0 bd t1 B k1 []) e C m k' d->(∀c:cE,c.heap[l]? =ad (.loop {pJ fnid a0.tmps p nj bd D none with state:= .busy})->∀Q U,(Instr.endRound l pd).run P c= .ok U Q->p' (.returned U) Q->∀a5,roundPost P l p' e.FJ a5 c)->
    RoundIn (fC none) 0 P l fnid (qR p u a0.tmps) nj bd W p':=by
   intro e C d a i X
   have h0:br {F with n:=n0,ds:=[],rd:=ad l} (·<k) (a7 nI n0 (ov nI p v t0) ms.flatten).kn g W {tmps:=qR p u a0.tmps,defers:=[]}:=br.ov x J (hh.defer [] (ad l)) hp hv z9
   have j:=D3 jT bW L fu nI n0 0 nj _ ms k [] .dc t1 B k1 Sy x (a8 _) (dB.ov x y6 hp z9) jl h1
   have g2:=D3 jT bW L fu nI n0 0 bd t1 B k1 [] e C m k' d x (a8 _) j.1.dB j.1.eP i
   refine roundIn_of_wpIn (F:=fC none) A ?_
   refine wpIn_mono (F:=fC<|ad l) (j.2.v7 (F:={F with n:=n0,ds:=[],rd:=ad l}) J (.inr HV) h0<|D6 Bj _ _ _) ?_
   rintro e1 a1 W1 ⟨rfl,ga,ha,w,y⟩
   have b:=w.same _ _ amq J
   have z:(pJ fnid a0.tmps p nj bd D none).state= .ready:=rfl
   refine⟨_,run_beginRound b z,?_⟩
   have E:l<W1.heap.size:=(fT.1 b).1
   have Aq:=ha.wx<|WX.putObj (.loop {pJ fnid a0.tmps p nj bd D none with state:= .busy}) b J hl
   refine wpIn_mono (F:=fC<|ad l) (g2.2.v7 (F:={F with n:=n0,ds:=[],rd:=ad l}) J (.inr HW) Aq<|D6 a _ _ _) ?_
   rintro e2 a2 W2 ⟨rfl,gb,hb,G,I⟩
   have K:=G.same _ _ (amr (o:= .loop {pJ fnid a0.tmps p nj bd D none with state:= .busy}) E) J
   have M:=run_endRound (P:=P) pd K
   refine X W2 K _ _ M ?_ a2
   have N:l<W2.heap.size:=(fT.1 K).1
   have O:fP (·<k) g gb:=⟨y.H.trans I.H,λid S=>(I.γ id<|hP S j.1.le).trans<|y.γ id S⟩
   refine hR gb _ (bQ j.1.le g2.1.le) g2.1.eP ((hh.swap hb (bQ j.1.le g2.1.le) O).wx<|WX.putObj _ K J hl) O ?_ ?_
   .rw[amr N];rfl
   .intro D' T;have V:D'≠l:=λe=>uk (e▸T)
    rw[ML V];refine G.same _ _ ?_ J;rw[ML V];exact w.same _ _ (nP D' T) J
  split at s
  .rename_i C Y k2 d i;obtain⟨a,i⟩:=D8 i ax;simp only[au,bG]at s;obtain⟨rfl,rfl,rfl⟩:=s;exact t .dc C d a i<|λc _ Q U Z hr a5=>⟨U,Q,Z,hr⟩
  .rename_i id C Y k2 d i;obtain⟨a,i⟩:=D8 i ax;simp only[au,bG]at s;obtain⟨rfl,rfl,rfl⟩:=s;exact t (.fW id) C d a i<|λc _ Q U Z hr a5=>⟨U,Q,Z,hr⟩
  .rename_i C Y k2 d i;obtain⟨a,i⟩:=D8 i ax;simp only[au,bG]at s;obtain⟨rfl,rfl,rfl⟩:=s;exact t .ret C d a i<|λc _ Q U Z hr a5=>⟨U,Q,Z,hr⟩
  .cases s
 .cases s
end
section
variable{P:bS}{tt:TT}{dw:jA->V AV->Ms->ar (V AV×AV)}
variable{F:eK}{dep n nI n0:Y}{t0:Tr}{a0:Act}{ds0:V HT}{kt l:Y}{fnid:jA}{p:V Y}{D:Y}{nj bd:gH}{mk:V Y}
def ams{rc:ar gH->Loop}:∀d s e,SV dep n d s=ad e->∀a W,IY F dep n nI n0 t0 a0 ds0 kt l rc mk s a W->a.eval d= .bool e:=by
 intro d s e h a W i;let ⟨g,_,_,_,hh,_⟩:=i;unfold SV at h;split at h
 .rename_i q k;split at h
  .rename_i t o;cases h;have f:=kr (m:=s.ms.flatten) k o;exact du hh _ d _ f<|dV _ d
  .cases h
 .cases h
def amt(jT:P.follows .mixedOrders=ae)(bW:b8 P tt=ae)(U:∀f vs ms lU aV,dw f vs ms=ad (lU,aV)->r P f lU aV) fu(hn:n<=4^dep)(N0:n0<=4^nI)(hp:∀q∈p,q<n0)(HV:nB nj=ae)(HW:nB bd=ae)(hl:F.w0.heap.size<=l)(uk:l∉mk):
  ∀df s aV,SU P tt dw fu dep n kt (Z p) (MR P tt dw fu nI n0 t0 p nj bd) df s=aV->aV≠ .no->∀a W,IY F dep n nI n0 t0 a0 ds0 kt l (pJ fnid a0.tmps p nj bd D) mk s a W->
   df.wpIn (fC none) 0 P (aV.post<|IY F dep n nI n0 t0 a0 ds0 kt l (pJ fnid a0.tmps p nj bd D) mk) a W:=by
 intro df s aV e G a W hI
 unfold SU at e
 split at e
 .rename_i S C draw;let ⟨g,lT,jl,y6,hh,hh0,I,M,w,nP⟩:=hI;split at e
  .rename_i t' vj k' ku h1;obtain⟨Bj,h1⟩:=D8 h1 ax;subst e;have N:=D3 jT bW U fu dep n 0 _ s.t s.ms s.k [] .dc t' vj k' ku hn (a8 _) lT jl h1;refine wpIn_mono (F:=fC none) (N.2.v7 (F:={F with n:=n,ds:=[],rd:=none}) J (.inl J) hh<|D6 Bj _ _ _) ?_;rintro e1 A W1 ⟨rfl,ga,ha,MW,SW⟩;exact⟨J,ga,N.1.dB,N.1.eP,y6.le N.1.le,ha,hh0.swap ha N.1.le SW,hP I N.1.le,(SW.γ kt I).trans M,MW.same _ _ w J,λD hD=>MW.same _ _ (nP D hD) J⟩
  .split at e
   .split at e
    .rename_i hpd;rw[hpd]at w;unfold abu at e;split at e
     .rename_i i o d j x hsp;let ⟨hy,_,hoi⟩:=abv hsp;let ⟨amx,k6,bU⟩:=amo hy;have T:C[i]? =ad o:=by simpa using hoi
      have ast:i<C.size:=(fT.1 T).1;split at e
      .rename_i gp gq hgp hgq;split at e
       .rename_i t1 ms1 k1 Sy f1 H;obtain⟨Bj,H⟩:=abp H ax;split at e
        .rename_i HX;simp only[cw,rJ,l6]at HX;let ⟨⟨⟨⟨K,di⟩,hjn⟩,hxn⟩,Bk⟩:=HX;have Bk:=kI Bk;split at e
         .rename_i E v hgj hgx;split at e
          .rename_i kH;have:=kI kH;subst this;split at e
           .rename_i pd So k2 amC;split at e
            .rename_i t3 ms3 k3 wl3 f3 L;obtain⟨amD,L⟩:=abp L ax;subst e;have nX:vg P (sa P tt dw<|im P tt dw fu):=SG bW U<|D3 jT bW U fu;let ⟨ON,amE,amF,amG⟩:=SS bW nX hn (ops:=C) (h i C.toList) 0 H hgp (λj o' hj=>by
              rw[EW]at hj;split at hj
              .simpa using hj
              .cases hj) lT jl
             refine wpIn_region ?_;have R:cd C.size=abm 0 (h i C.toList).length++(i::(abm (i+1) (az (i+1) C.toList).length++[])):=by rw[g8,NV];have e1:(h i C.toList).length=i:=bV;have e2:(az (i+1) C.toList).length=C.size-(i+1):=ax;rw[e1,e2,<-IA];have:C.size-(i+1)+1=C.size-i:=O;rw[this];have:=List.range'_append (s:=0) (m:=i) (n:=C.size-i) (step:=1);simp only[iT,eH]at this;rw[this];congr 1;omega
             rw[R];refine amG ({F with n:=n,ds:=[],rd:=none}.re W g s.k) J (λ_ _ _=> .inl J) _ _ g W a (hh.re<|D6 Bj _ _ _) ?_;intro N W1 A hh1;let ⟨hA,SX,SZ⟩:=hh.un hh1;have hC:=hh0.swap hA ON SZ;have amI:=y6.le ON;have hvv:∀(x:V Y)(v:V AV),(∀y∈x,y<n)->MN dep t1 x=ad v->eQ N v (x.map λy=>A.tmps.getD y undef)/\∀S∈cF v,S<k1:=by
              intro x;induction x with
              |nil=>intro v _ e;cases e;exact⟨J,λS Q=>by cases Q⟩
              |cons y x ih=>
               intro v hb e
               simp only[MN]at e
               split at e
               .rename_i u vs hu uv;cases e;have hy:=hb y ax;let ⟨i1,i2⟩:=ih vs (λz hz=>hb z<|jF _ hz) uv;refine⟨⟨_,_,J,hA.eE y u<|MV hy hu,i1⟩,λS Q=>?_⟩;rcases aY.1 Q with e|e
                .exact hA.ak (.s y) (.v u) (MV hy hu) S e
                .exact i2 S e
               .cases e
             let ⟨hv,z9⟩:=hvv x v hxn hgx;have amK:A.tmps.getD j undef= .func (.yield l) #[] #[]:=by have h1:bA N (.c<|.X E) (A.tmps.getD j undef):=hA.eE j _<|MV hjn hgj;have h2:A.tmps.getD j undef=N.γ E:=h1;rw[h2,SZ.γ E I,M]
             show wpOpsIn (fC none) 0 P C _ (i::_) A W1;rw[wpOpsIn_cons];unfold wpOpIn;rw[T];have amL:Region.wanted o (yielded C A.tmps)=ae:=by
              unfold gdY at K;unfold Region.wanted;split at K
              .rename_i hg;rw[hg]
              .rename_i gj want hg;rw[hg];split at K
               .rename_i tg htg;split at K
                .rename_i b rH lE;have:=hA.eE tg _<|MV (c9 rH) lE;simp only[E0 htg this];simpa using K
                .cases K
               .cases K
             simp only[amL,b7];refine⟨λ_ _=>trivial,?_⟩;have hex:(o.semAt (fC none).round A.eval).run P W1= .ok (.round l fnid (qR p (x.map λy=>A.tmps.getD y undef) a0.tmps) nj bd) W1:=by
              show(execOp A.eval o).run P W1=_;have hy:=run_yield (P:=P) (args:=⟨x.map λy=>A.tmps.getD y undef⟩) (SX.same _ _ w J) (by show Z (x.map _)=Z p;rw[cR];exact Bk);rw[execOp,bU];have e1:A.eval (.tmp j)= .func (.yield l) #[] #[]:=amK;have e2:(⟨x.map abr⟩:Array dS).map A.eval=⟨x.map λy=>A.tmps.getD y undef⟩:=by apply BY;simp[Act.eval]
              simp only[resolve,e1,e2,FC,pure_bind,invoke];rw[<-amn,Array.empty_append];exact hy
             rw[hex];simp only[Oper.uponIn_round];refine⟨λhh=>Iy,?_⟩;refine amp (mk:=mk) (D:=D) jT bW U fu N0 hp HV HW hl uk amC amI amF hC hv z9 (SX.same _ _ w J) (λD hD=>SX.same _ _ (nP D hD) J) ?_;intro g2 W2 abz amN hC2 hG2 amO amP;simp only;have hA2:=(hA.swap hC2 abz hG2).abk (dep:=dep) (n:=n) hn J di (v:= .c<|.B pd.isNone) (u:= .bool pd.isNone) J (λS Q=>by cases Q);have amQ:dB dep n (jk (cP dep d) (.c<|.B pd.isNone) t1) k2:=(amE.le abz).set hn di (λS Q=>by cases Q);let ⟨amR,amS,amT,amU⟩:=SS bW nX hn (ops:=C) (az (i+1) C.toList) (i+1) L hgq (λj o' hj=>by rw[uc]at hj;simpa using hj) amQ amN;rw[amx];refine amU ({F with n:=n,ds:=[],rd:=none}.re W2 g2 k2) J (λ_ _ _=> .inl J) _ _ g2 W2 _ (hA2.re<|D6 amD _ _ _) ?_;intro g3 W3 a3 hh3;let ⟨hA3,hK3,hG3⟩:=hA2.un hh3;have Jl:s.k<=k3:=O;refine⟨J,g3,amS,amT,y6.le Jl,hA3,hC2.swap hA3 amR hG3,hP I Jl,?_,hK3.same _ _ amO J,λD hD=>hK3.same _ _ (amP D hD) J⟩;rw[hG3.γ E O,hG2.γ E O,SZ.γ E I,M]
            .exact absurd e.symm G
           .exact absurd e.symm G
          .exact absurd e.symm G
         .exact absurd e.symm G
        .exact absurd e.symm G
       .exact absurd e.symm G
      .exact absurd e.symm G
     .exact absurd e.symm G
    .exact absurd e.symm G
   .exact absurd e.symm G
 .exact absurd e.symm G
end
def pK(a:Y):HT:={target:= .collected a,args:= #[]}
structure SR where
 t:Tr
 ms:Ms
 k:Y
noncomputable def MY(s:SR)(a:SY):iq SR:=match a.pd with
 |none=> .dc ⟨s.t,a.ms,a.k⟩
 |some (.exit id)=> .fW id ⟨s.t,a.ms,a.k⟩
 |some .ret=> .ret ⟨s.t,a.ms,a.k⟩
 |_=> .no
noncomputable def abG(P:bS)(i:TT)(d:jA->V AV->Ms->ar (V AV×AV))(l o dep n:Y)(p:V Y)(f q:gH)(m:V AV)(a:Func)(u:gH)(s:SR):iq SR:=
 match a.name != "runtime.NumGoroutine" &&dT (Z m+1) a.ntmps&&dT a.ntmps 4096&&a.results.isEmpty with
 |true=>(match gen (SU P i d l (eC a.ntmps) a.ntmps s.k (Z p)<|MR P i d l dep n s.t p f q) (SV (eC a.ntmps) a.ntmps) o u ⟨mC (eC a.ntmps) (.c (.X s.k)::m) 0 .e,s.ms,s.k+1,none⟩with
  | .dc g=>MY s g
  | .ret g=>MY s g
  |_=> .no)
 |false=> .no
noncomputable def abH(P:bS)(g:TT)(d:jA->V AV->Ms->ar (V AV×AV))(i k dep n:Y)(p:V Y)(e l:gH)(m:Y)(s:SR):iq SR:=
 match bu m s.ms with
 |some (.gM f [] a)=>(match rF a with
  |some ws=>(match P.funcs[f]? with
   |some fn=>(match fn.body with
    |some cb=>abG P g d i k dep n p e l ws fn cb s
    |none=> .no)
   |none=> .no)
  |none=> .no)
 |_=> .no
noncomputable def MZ(P:bS)(f:TT)(a:jA->V AV->Ms->ar (V AV×AV))(i l dep n:Y)(m:gH)(s:SR):iq SR:=match m with
 | .region id ops draw=>(match D7 s.ms (im P f a i dep n 0 (.region id ops draw) s.t s.ms s.k [])with
  | .dc o e u _=> .dc ⟨o,e,u⟩
  |_=> .no)
 | .rangeFunc g ⟨p⟩ d bd=>(match p.all (λq=>dj q n)&&nB d&&nB bd with
  |true=>(match il dep n g with
   |some v=>(match jz s.t v with
    |some (.c<|.X id)=>abH P f a i l dep n p d bd id s
    |_=> .no)
   |none=> .no)
  |false=> .no)
 |_=> .no
noncomputable def M1(dep n:Y)(a:dS)(s:SR):ar Bool:=match il dep n a with
 |some p=>(match jz s.t p with
  |some (.c<|.B b)=>ad b
  |_=>none)
 |none=>none
def IR(F:eK)(dep n:Y)(s:SR)(a:Act)(W:cE):Prop:=
 ∃(g:Gh)(mk:V Y),dB dep n s.t s.k/\eP s.ms s.k/\br {F with n:=n,ds:=mk.map pK,rd:=none} (·<s.k) (a7 dep n s.t s.ms.flatten).kn g W a/\
  (∀D∈mk,W.heap[D]? =ad (.deferred<|ad [])/\F.w0.heap.size<=D)/\mk.Nodup
section
variable{P:bS}{tt:TT}{dw:jA->V AV->Ms->ar (V AV×AV)}{F:eK}
def br.args{nn dep n k d o}{t}{m:Mem}{g}{W}{a}{ds}{rd}(i:br {F with n:=nn,ds:=ds,rd:=rd} (·<k) (a7 dep n t m).kn g W a){vs}{p}(hr:eQ g vs p)(L:∀q∈cF vs,q<k)(hle:Z vs<=o)(HY:o<=4^d):
  br {F with n:=o,ds:=[],rd:=none} (·<k) (a7 d o (mC d vs 0 .e) m).kn g W {tmps:=p.toArray++rI (o-p.toArray.size) undef,defers:=[]}:=by
 have X:=xM hr
 have B:∀j v,(a7 d o (mC d vs 0 .e) m).kn (.s j)=ad (.v v)->S j (dr 0 vs)=ad v:=by
  intro j v f;rw[DJ]at f;simp only at f;by_cases C:j<o
  .rw[ao C,Bi _ vs 0 .e j O O,yQ]at f;cases hl:S j (dr 0 vs)with
   |none=>rw[hl]at f;simp at f
   |some x=>rw[hl]at f;simp only[uh,au,Info.v.injEq]at f;rw[f]
  .rw[w C]at f;simp at f
 refine⟨bV,J,λj v f=>?_,i.cL,i.inj,λK x Q q l=>?_,i.dQ,i.sub,i.below,i.le,i.fresh,i.fS⟩
 .let ⟨_,u,hu,U,_⟩:=mW vs p 0 hr j v<|B j v f;have H:p[j]? =ad u:=vN;have gN:j<Z p:=(rj.1 H).1;rw[nQ,xN zT];simpa[H]using U
 .cases K with
  |m j=>exact i.ak (.m j) x Q q l
  |s j=>
   cases x with
   |b _=>simp[a7,St.kn]at Q
   |v y=>exact L q<|(y4 vs 0 j y<|B j y Q).2 q l
def amW{dep n}:∀d s e,M1 dep n d s=ad e->∀a W,IR F dep n s a W->a.eval d= .bool e:=by
 intro d s e h a W i;let ⟨g,mk,_,_,hh,_⟩:=i;unfold M1 at h;split at h
 .rename_i q k;split at h
  .rename_i o l;cases h;have f:=kr (m:=s.ms.flatten) k l;exact du hh _ d _ f<|dV _ d
  .cases h
 .cases h
def amX(jT:P.follows .mixedOrders=ae)(bW:b8 P tt=ae)(y5:∀f vs ms lU aV,dw f vs ms=ad (lU,aV)->r P f lU aV) fu fy{dep n}(hn:n<=4^dep):
  ∀df s aV,MZ P tt dw fu fy dep n df s=aV->aV≠ .no->∀a W,IR F dep n s a W->df.wpIn (fC none) 0 P (aV.post<|IR F dep n) a W:=by
 intro df s aV h U a W hI
 unfold MZ at h
 split at h
 .rename_i id ops draw;let ⟨g,mk,lT,jl,hh,H,js⟩:=hI;split at h
  .rename_i t' vj k' ku T;obtain⟨Bj,T⟩:=D8 T ax;subst h;have g1:=D3 jT bW y5 fu dep n 0 _ s.t s.ms s.k [] .dc t' vj k' ku hn (a8 _) lT jl T;refine wpIn_mono (F:=fC none) (g1.2.v7 (F:={F with n:=n,ds:=mk.map pK,rd:=none}) J (.inl J) hh<|D6 Bj _ _ _) ?_;rintro e1 a1 z ⟨rfl,ga,ha,MW,SW⟩;exact⟨J,ga,mk,g1.1.dB,g1.1.eP,ha,λD y=>⟨MW.same _ _ (H D y).1 J,(H D y).2⟩,js⟩
  .exact absurd h.symm U
 .rename_i S0 p o bd;let ⟨g,mk,lT,jl,hh,H,js⟩:=hI;split at h
  .rename_i HX;simp only[cw,rJ,l6]at HX;let ⟨⟨hp,HV⟩,HW⟩:=HX;split at h
   .rename_i pg hpg;split at h
    .rename_i id eF;unfold abH at h;split at h
     .rename_i f zX oa;split at h
      .rename_i ws IW;split at h
       .rename_i fn M2;split at h
        .rename_i cb BV;unfold abG at h;split at h
         .rename_i E;simp only[cw]at E;let ⟨⟨⟨sF,G⟩,jS⟩,OS⟩:=E;have G:Z ws+1<=fn.ntmps:=c9 G;have HY:fn.ntmps<=4^eC fn.ntmps:=SE<|c9 jS;have Y:nS P f=ae:=by simp[nS,M2,BV,sF]
          have HS:a.eval S0=g.γ id:=du hh _ S0 _ (kr (m:=s.ms.flatten) hpg eF)<|dV _ S0;have vB:(a7 dep n s.t s.ms.flatten).kn (.m id)=ad (.b<|.gM f [] zX):=by show(S id s.ms.flatten).map Info.b=_;rw[ja,oa];rfl
          let ⟨us0,wv,hγ,I,hwv⟩:=hh.cL id _ vB;have I:us0=[]:=I;subst I;have NW:=JH IW hwv;have abJ:∀j∈cF ws,j<s.k:=λj q=>hh.ak (.m id) _ vB j<|fU _<|CC IW j q
          refine wpIn_rangeFunc (F:=fC none)<|λd _=>?_;obtain⟨z,M⟩:∃z,(W.alloc<|.deferred<|ad []).alloc (.loop {state:= .ready,pending:=none,fn:=d,tmps:=a.tmps,params:=⟨p⟩,assign:=o,body:=bd,defers:=W.heap.size})=z:=⟨_,J⟩;refine⟨W.heap.size+1,[pK W.heap.size],z,{target:= .fn (.func f) wv.toArray,args:= #[.func (.yield<|W.heap.size+1) #[] #[]]},z,f,#[.func (.yield<|W.heap.size+1) #[] #[]]++wv.toArray,z,?_,?_,λ_ _=>trivial,O3 Y,λhh=>Iy,?_⟩
          .rw[<-M];exact run_enterLoop_outer d a.tmps ⟨p⟩ o bd
          .simp only[resolve,HS,hγ,FC];simp[Act.eval]
          .have hx1:WX F.w0.heap.size W z:=by rw[<-M];exact(WX.alloc _ _ _).trans (WX.alloc _ _ _)
           have hB:F.w0.heap.size<=W.heap.size:=hh.below.size;have hD1:z.heap[W.heap.size]? =ad (.deferred<|ad []):=by rw[<-M];exact(Below.heap_alloc _ _ _ ax).trans<|am2 W _
           have hL1:z.heap[W.heap.size+1]? =ad (.loop<|pJ d a.tmps p o bd W.heap.size none):=by rw[<-M];have:=am2 (w:=W.alloc<|.deferred<|ad [])<|.loop {state:= .ready,pending:=none,fn:=d,tmps:=a.tmps,params:=⟨p⟩,assign:=o,body:=bd,defers:=W.heap.size};rwa[World.size_alloc]at this
           have abL:∀D∈W.heap.size::mk,z.heap[D]? =ad (.deferred<|ad []):=by
            intro D y;rcases bX.1 y with rfl|y
            .exact hD1
            .have T:=(H D y).1;rw[<-M];exact(Below.heap_alloc _ _ _<|by have:=(fT.1 T).1;simp;omega).trans<|(Below.heap_alloc _ _ _ (fT.1 T).1).trans T
           have uk:W.heap.size+1∉W.heap.size::mk:=by intro hc;have:=abL _ hc;rw[hL1]at this;cases this
           have hC1:=(hh.amj<|.func (.yield<|W.heap.size+1) #[] #[]).wx hx1;have abN:(g.new s.k<|.func (.yield<|W.heap.size+1) #[] #[]).γ s.k= .func (.yield<|W.heap.size+1) #[] #[]:=by simp[Gh.new]
           have y7:fP (·<s.k) g (g.new s.k<|.func (.yield<|W.heap.size+1) #[] #[]):=⟨cD.refl _,λj q=>by have:j≠s.k:=Nat.ne_of_lt q;simp[Gh.new,this]⟩;have Ps:eQ (g.new s.k<|.func (.yield<|W.heap.size+1) #[] #[]) (.c (.X s.k)::ws) (.func (.yield<|W.heap.size+1) #[] #[]::wv):=by
            refine⟨_,_,J,abN.symm,?_⟩;have key:∀{xs:V AV}{vv:V aO},eQ g xs vv->(∀j∈cF xs,j<s.k)->eQ (g.new s.k<|.func (.yield<|W.heap.size+1) #[] #[]) xs vv:=by
             intro xs;induction xs with
             |nil=>intro vv h _;exact h
             |cons x xs ih=>
              rintro vv ⟨u,aV,rfl,T,h2⟩ hb
              exact⟨u,aV,J,bA.mono y7 (λj q=>hb j<|dY _ q) T,ih h2<|λj q=>hb j<|fU _ q⟩
            exact key NW abJ
           have abO:∀j∈cF (.c (.X s.k)::ws),j<s.k+1:=by
            intro j q;simp only[cF,aY]at q;rcases q with q|q
            .have:j=s.k:=by simpa[AV.ak,C.ak]using q
             omega
            .exact MC<|abJ j q
           have hA1:=hC1.args Ps abO (by simpa using G) HY;have am4:dB (eC fn.ntmps) fn.ntmps (mC (eC fn.ntmps) (.c (.X s.k)::ws) 0 .e) (s.k+1):=by
            intro j v q hv i hi;rw[Bi _ _ 0 .e j bV O,yQ]at hv;split at hv
            .rename_i u hu;cases hv;exact abO i<|(y4 _ 0 j v hu).2 i hi
            .cases hv
           have uz:IY F (eC fn.ntmps) fn.ntmps dep n s.t a (mk.map pK) s.k (W.heap.size+1) (pJ d a.tmps p o bd W.heap.size) (W.heap.size::mk) ⟨mC (eC fn.ntmps) (.c (.X s.k)::ws) 0 .e,s.ms,s.k+1,none⟩ {tmps:=(.func (.yield<|W.heap.size+1) #[] #[]::wv).toArray++rI (fn.ntmps-(.func (.yield<|W.heap.size+1) #[] #[]::wv).toArray.size) undef,defers:=[]} z:=
            ⟨_,am4,jl.le<|Nat.le_succ _,lT.le<|Nat.le_succ _,hA1,hC1,dJ _,abN,hL1,abL⟩
           have abP:(#[.func (.yield<|W.heap.size+1) #[] #[]]++wv.toArray:Array aO)=(.func (.yield<|W.heap.size+1) #[] #[]::wv).toArray:=ax;rw[abP];refine callsIn_of_wp (F:=fC none) M2 BV A ?_;have abQ:=abl (P:=P) (Fe:=fC none) (amt (F:=F) (t0:=s.t) (mk:=W.heap.size::mk) (ds0:=mk.map pK) (a0:=a) (kt:=s.k) (l:=W.heap.size+1) (fnid:=d) (D:=W.heap.size) jT bW y5 fu HY hn hp HV HW (by omega:F.w0.heap.size<=W.heap.size+1) uk) ams fy cb;have CK:∀(K:SY)(a':Act)(L:cE),MY s K=aV->IY F (eC fn.ntmps) fn.ntmps dep n s.t a (mk.map pK) s.k (W.heap.size+1) (pJ d a.tmps p o bd W.heap.size) (W.heap.size::mk) K a' L->
             a'.defers=[]/\∃v,(results fn a'.tmps).run P L= .ok v L/\rangePost (fC none) 0 P (W.heap.size+1) (aV.post<|IR F dep n) {a with defers:=[pK W.heap.size]++a.defers} (.returned v) L:=by
            intro K a' L hf N
            let ⟨g',asw,am5,am6,hA',hC',asx,asy,B,am9⟩:=N
            refine⟨hA'.defers,.tuple #[],?_,?_⟩
            .have hre:fn.results= #[]:=by simpa using OS
             simp[results,hre]
            .have gN:W.heap.size+1<L.heap.size:=(fT.1 B).1;refine⟨K.pd,_,run_endLoop (P:=P) B (by cases K.pd<;>simp[pJ]),?_⟩;have hw4:WX F.w0.heap.size L (L.putObj (W.heap.size+1)<|.loop {pJ d a.tmps p o bd W.heap.size K.pd with state:= .exhausted}):=WX.putObj _ B J O;have Q:IR F dep n ⟨s.t,K.ms,K.k⟩ {a with defers:=[pK W.heap.size]++a.defers} (L.putObj (W.heap.size+1)<|.loop {pJ d a.tmps p o bd W.heap.size K.pd with state:= .exhausted}):=by
              refine⟨g',W.heap.size::mk,am6,am5,?_,λD y=>⟨?_,?_⟩,?_⟩
              .have h5:=((hC'.wx hw4).defer (pK W.heap.size::mk.map pK) none);have h6:a.defers=mk.map pK:=hh.defers;rw[h6];exact h5
              .have fe:D≠W.heap.size+1:=λe=>uk (e▸y)
               rw[ML fe];exact am9 D y
              .rcases bX.1 y with rfl|y
               .exact hB
               .exact(H D y).2
              .refine zp.2 ⟨λhc=>?_,js⟩;have:=(fT.1 (H _ hc).1).1;omega
             unfold MY at hf;split at hf
             .rename_i R;rw[R]at Q⊢;subst hf;exact⟨J,Q⟩
             .rename_i nz R;rw[R]at Q⊢;subst hf;exact wpIn_exit ⟨J,Q⟩
             .rename_i R;rw[R]at Q⊢;subst hf;exact wpIn_ret ⟨J,Q⟩
             .exact absurd hf.symm U
           split at h
           .rename_i K hg;refine wpIn_mono (F:=fC none) (abQ _ _ hg ax _ _ uz) ?_;rintro e a' L ⟨rfl,N⟩;exact CK K a' L h N
           .rename_i K hg;refine wpIn_mono (F:=fC none) (abQ _ _ hg ax _ _ uz) ?_;rintro e a' L ⟨rfl,N⟩;exact CK K a' L h N
           .exact absurd h.symm U
         .exact absurd h.symm U
        .exact absurd h.symm U
       .exact absurd h.symm U
      .exact absurd h.symm U
     .exact absurd h.symm U
    .exact absurd h.symm U
   .exact absurd h.symm U
  .exact absurd h.symm U
 .exact absurd h.symm U
end
noncomputable def abR(f:TT)(a:Func)(dep:Y)(g:AV):iq SR->Bool
 | .dc s=>(match DZ f dep a.ntmps s.t s.ms a.results.toList with
  |some d=>Bd (λe=>S e s.ms.flatten) d g
  |none=>ah)
 | .ret s=>(match DZ f dep a.ntmps s.t s.ms a.results.toList with
  |some d=>Bd (λe=>S e s.ms.flatten) d g
  |none=>ah)
 |_=>ah
noncomputable def S4(P:bS)(d:TT)(a:jA->V AV->Ms->ar (V AV×AV))(g i k:Y)(f:jA)(vs:V AV)(l:AV):Bool:=match P.funcs[f]? with
 |some fn=>(match fn.body with
  |some c=>(match fn.name != "runtime.NumGoroutine" &&dT (Z vs) fn.ntmps&&dT fn.ntmps 4096 with
   |true=>abR d fn (eC fn.ntmps) l<|gen (MZ P d a g i (eC fn.ntmps) fn.ntmps) (M1 (eC fn.ntmps) fn.ntmps) k c ⟨mC (eC fn.ntmps) vs 0 .e,[[]],0⟩
   |false=>ah)
  |none=>ah)
 |none=>ah
section
variable{P:bS}{tt:TT}{dw:jA->V AV->Ms->ar (V AV×AV)}
def abS{p:Func}{a:Array aO}{q:Ending->cE->Prop}{B:Y}:∀(mk:V Y)(W:cE),(∀f∈mk,W.heap[f]? =ad (.deferred<|ad [])/\B<=f)->mk.Nodup->
  (∀g,WX B W g->∃v,(results p a).run P g= .ok v g/\q (.returned v) g)->LeavesInM (fC none) 0 P p a q (mk.map pK) .returning W
 |[],W,_,_,k=>k W<|WX.refl _ _
 |f::mk,W,hm,i,k=>by
  have l:=hm f ax;have s:=WX.putObj (B:=B) (.deferred none) l.1 J l.2;refine⟨ax,.inl ⟨f,_,J,run_takeDeferred l.1,?_⟩⟩;refine abS mk _ (λm d=>⟨?_,(hm m<|by simp[d]).2⟩) (zp.1 i).2<|λg n=>k g<|s.trans n;have o:m≠f:=λe=>(zp.1 i).1<|e▸d
  rw[ML o];exact(hm m<|by simp[d]).1
def abT(jT:P.follows .mixedOrders=ae)(bW:b8 P tt=ae)(y5:∀f vs ms lU aV,dw f vs ms=ad (lU,aV)->r P f lU aV) fu fy fr{f}{a}{df}(hf:P.funcs[f]? =ad a)(hb:a.body=ad df)(sF:(a.name != "runtime.NumGoroutine")=ae){vs}(hle:Z vs<=a.ntmps)(jS:a.ntmps<=4096)
  {s:SR} {rr:iq SR} (iS:gen (MZ P tt dw fu fy (eC a.ntmps) a.ntmps) (M1 (eC a.ntmps) a.ntmps) fr df ⟨mC (eC a.ntmps) vs 0 .e,[[]],0⟩=rr) (hrr:rr= .dc s\/rr= .ret s) {aV}(hr:DZ tt (eC a.ntmps) a.ntmps s.t s.ms a.results.toList=ad aV) (hm:cF vs=[]):CX P f vs [] 0 aV s.ms.flatten s.k:=by
 refine⟨zS,a8 _,?_⟩
 intro F g W q hn mb L
 have hn4:a.ntmps<=4^eC a.ntmps:=SE jS
 refine callsIn_wide.1<|callsIn_of_wp_marks (n:=0) (F:=fC none) hf hb A ?_
 have hds:F.ds=[]:=L.defers.symm
 have X:(q.toArray++rI (a.ntmps-q.toArray.size) undef).size=a.ntmps:=bV
 have h:∀j v,(a7 (eC a.ntmps) a.ntmps (mC (eC a.ntmps) vs 0 .e) []).kn (.s j)=ad (.v v)->S j (dr 0 vs)=ad v:=by
  intro j v l;rw[DJ]at l;simp only at l;by_cases z:j<a.ntmps
  .rw[ao z,Bi _ vs 0 .e j O O,yQ]at l;cases hl:S j (dr 0 vs)with
   |none=>rw[hl]at l;simp at l
   |some x=>rw[hl]at l;simp only[uh,au,Info.v.injEq]at l;rw[l]
  .rw[w z]at l;simp at l
 have h0:br {F with n:=a.ntmps,ds:=[].map pK,rd:=none} (·<0) (a7 (eC a.ntmps) a.ntmps (mC (eC a.ntmps) vs 0 .e) ([[]]:Ms).flatten).kn g W {tmps:=q.toArray++rI (a.ntmps-q.toArray.size) undef,defers:=[]}:=by
  refine⟨X,J,λj v l=>?_,λd b hb=>?_,λd E b b' kk G=>?_,λQ x i d o=>?_,λd x i=>?_,L.sub,L.below,L.le,L.fresh,L.fS⟩
  .have hl:=h j v l;have G:=L.eE j v zQ;have gN:=(y4 vs 0 j v hl).1;have:(q.toArray++rI (a.ntmps-q.toArray.size) undef).getD j undef=q.toArray.getD j undef:=by rw[nQ,nQ,xN bV]
   rw[this];exact G
  .simp[a7,St.kn,S]at hb
  .simp[a7,St.kn,S]at G
  .cases Q with
   |m j=>simp[a7,St.kn,S]at i
   |s j=>
    cases x with
    |b _=>simp[a7,St.kn]at i
    |v y=>
     have:=(y4 vs 0 j y<|h j y i).2 d o
     rw[hm]at this
     cases this
  .simp[a7,St.kn,S]at i
 have I:dB (eC a.ntmps) a.ntmps (mC (eC a.ntmps) vs 0 .e) 0:=by
  intro j v l V d o;rw[Bi _ vs 0 .e j O O,yQ]at V;split at V
  .rename_i u hu;cases V;have:=(y4 vs 0 j v hu).2 d o;rw[hm]at this;cases this
  .cases V
 have uz:IR F (eC a.ntmps) a.ntmps ⟨mC (eC a.ntmps) vs 0 .e,[[]],0⟩ {tmps:=q.toArray++rI (a.ntmps-q.toArray.size) undef,defers:=[]} W:=
  ⟨g,[],I,λd b hb=>(by simp[bu,lR]at hb),h0,λD hD=>(by cases hD),List.nodup_nil⟩
 have H:∀(K:Act)(C:cE),IR F (eC a.ntmps) a.ntmps s K C->LeavesInM (fC none) 0 P a K.tmps (λe C=>∃v g',e= .returned v/\br {F with n:=1} (·<s.k) (St.kn ⟨[(0,aV)],s.ms.flatten,0,[]⟩) g' C (me [v])) K.defers .returning C:=by
  intro K C M;let ⟨g',mk,lT,jl,h',nP,js⟩:=M;have hd:K.defers=mk.map pK:=h'.defers;rw[hd];refine abS (B:=F.w0.heap.size) mk C nP js ?_;intro W2 i;have p:=h'.wx i;have N:=aa6 hr;let ⟨u,hu,R⟩:=zR (P:=P) (tt:=tt) (st:=a7 (eC a.ntmps) a.ntmps s.t s.ms.flatten) bW p (fn:=a) (rs:=a.results.toList) ax N;have x8:=Wg (tt:=tt) p N;refine⟨u,hu,u,g',J,⟨J,hds.symm,?_,?_,?_,?_,?_,p.sub,p.below,p.le,p.fresh,p.fS⟩⟩
  .intro t x i;simp only[St.kn,S,cu]at i;let ⟨y,U,he⟩:=i;cases he;split at U
   .rename_i e;subst e;cases U;simpa[me]using R
   .cases U
  .intro d b hb;exact p.cL d b hb
  .intro d E b b' kk hb kZ G h3;exact p.inj d E b b' kk hb kZ G h3
  .intro Q x i d o;cases Q with
   |s t=>
    simp only[St.kn,S,cu]at i
    let ⟨y,U,he⟩:=i
    subst he
    split at U
    .cases U;exact x8 d o
    .cases U
   |m j=>exact p.ak (.m j) x i d o
  .intro d x i;exact p.dQ d x i
 have T:=abl (P:=P) (Fe:=fC none) (amX (F:=F) jT bW y5 fu fy hn4) amW fr df _ rr iS (by rcases hrr with e|e<;>rw[e]<;>simp) _ W uz
 refine wpIn_mono (F:=fC none) T ?_
 intro e K C Y
 rcases hrr with e1|e1
 .rw[e1]at Y;obtain⟨rfl,M⟩:=Y;exact H K C M
 .rw[e1]at Y;obtain⟨rfl,M⟩:=Y;exact H K C M
def anc(l:P.follows .mixedOrders=ae)(m:b8 P tt=ae)(g:∀f vs H n p,dw f vs H=ad (n,p)->r P f n p) t u v{f}{vs}{x}
  (a:S4 P tt dw t u v f vs x=ae) (q:cF vs=[]) (B:x.ak=[]):r P f vs x:=by
 unfold S4 at a
 split at a
 .rename_i K C;split at a
  .rename_i c F;split at a
   .rename_i i;simp only[cw]at i;let ⟨⟨d,hlen⟩,o⟩:=i;unfold abR at a;split at a
    .rename_i s e;split at a
     .rename_i p k;exact SJ (abT l m g t u v C F d (c9 hlen) (c9 o) e (.inl J) k q) q B a
     .cases a
    .rename_i s e;split at a
     .rename_i p k;exact SJ (abT l m g t u v C F d (c9 hlen) (c9 o) e (.inr J) k q) q B a
     .cases a
    .cases a
   .cases a
  .cases a
 .cases a
end
section
variable{P:bS}{tt:TT}
def abV{n}{a}{g}{v i}{o}{B}{F m:St}{ks}{k}{Q:St->Prop}{t}{u}
  (hs:a[i]? =ad o->tT P n a i t u (pU (λi=>1000000*v+1000*i) i)) (H:∀p∈t,F.kn p.1=ad p.2) (q:m.kn=bq F.kn u) (L:∀x∈dq t,x∈k.1) (U:∀x∈fD u,x∈k.2) (cq:RG P n a g v (i+1) B m (ks++[k]) Q):RG P n a g v i (o::B) F ks Q:=by
 intro d
 have w:a[i]? =ad o:=by have:=a6 (λl=>l[0]?) d;simpa[uc]using this
 have e:az (i+1) a.toList=B:=by rw[<-oN,d];rfl
 have C:=hs w
 let ⟨ds,K,hl,y,h2,z,A,W,D,E⟩:=cq e
 refine⟨(t,u)::ds,K,by simp[hl],?_,?_,?_,A,W,?_,E⟩
 .intro j hj;cases j with
  |zero=>simpa using C
  |succ j=>
   have:=y j nt
   rw[(O:i+(j+1)=i+1+j)]
   simpa using this
 .intro j hj p f;cases j with
  |zero=>simp only[tX]at f;simpa[nR]using H p f
  |succ j=>
   simp only[zB]at f
   have:=h2 j nt p f
   rw[q]at this
   simpa[nR]using this
 .rw[z,q];simp[nR]
 .intro G;let ⟨X,⟨b,c⟩,s⟩:=D G;refine⟨k::X,⟨by simp[b],λj hj r=>?_⟩,by rwa[lD,List.singleton_append]at s⟩;cases j with
  |zero=>exact⟨L,U⟩
  |succ j=>simpa using c j nt (by simpa using r)
end
def ane n:(ls n).Pairwise (λx a=>bT x.testBit n<bT a.testBit n\/(bT x.testBit n=bT a.testBit n/\x<a)):=by
 have one:∀s,(tB n s).Pairwise (λx a=>bT x.testBit n<bT a.testBit n\/(bT x.testBit n=bT a.testBit n/\x<a)):=λs=>by refine LV ?_ (List.Pairwise.filter _ (Iw (n:=2^n)):(tB n s).Pairwise (·<·));intro x a d e g;simp only[tB,nO,beq_iff_eq]at d e;omega
 have f:∀k,((cd k).flatMap λs=>tB n<|s+1).Pairwise (λx a=>bT x.testBit n<bT a.testBit n\/(bT x.testBit n=bT a.testBit n/\x<a)):=by
  intro k;induction k with
  |zero=>exact .nil
  |succ k i=>
   rw[zt,Cy]
   refine w5.2 ⟨i,?_,λx d a e=>?_⟩
   .simp only[kD,Mc,g8];exact one<|k+1
   .simp only[iw,oI,kD,Mc,g8,tB,nO,beq_iff_eq]at d e;let ⟨s,l,h2,m⟩:=d;left;omega
 exact f _
section
variable{P:bS}{tt:TT}
def anf{n}{p}{a}{l i d}{f}{first g}{ty}{pos}{B}{H}{q}{mem}{u}{v}{L}{Q:St->Prop}{U W}
  (hf:rE ⟨q,mem,u,v⟩ first.toList=ad U) (hc:rE ⟨q,mem,u,v⟩ g.toList=ad W)
  (o:∀k,RG P n p a l (i+1) H ⟨(d,.c<|.X<|1000000*l+1000*i)::q,(1000000*l+1000*i,.gM f U W)::mem,u,v⟩ (L++[k]) Q) (F:dj d n=ae:=by rfl):
  RG P n p a l i (⟨ad d,.makeFunc (.func f) first g,ty,pos,B,none⟩::H) ⟨q,mem,u,v⟩ L Q:=
 abV (k:=(_,_)) (λK=>(VG K J J (c9 F) J hf hc<|1000000*l+1000*i).Iz ⟨aW _,by show _<1000000*l+1000*(i+1);omega⟩) (λb C=>by
  let ⟨x,_,o⟩:=iw.1 C;exact dV _ x b o) (by
   funext key;cases key with
   |s t=>
    by_cases e:d=t
    .subst e;simp[St.kn,S,bq,aC]
    .simp[St.kn,S,bq,aC,e]
   |m j=>
    by_cases e:1000000*l+1000*i=j
    .subst e;simp[St.kn,S,bq,aC]
    .simp[St.kn,S,bq,aC,e]) (λ_ o=>o) (λ_ o=>o) (o _)
def ang{l}{m n:Ending->cE->Prop}(g:∀e f,m e f->n e f){e}{a}{f}(d:bodyPost P l m e a f):bodyPost P l n e a f:=by
 cases e with
 |normal=>let ⟨i,v,h2,k⟩:=d;exact⟨i,v,h2,g _ _ k⟩
 |ret=>let ⟨i,v,h2,k⟩:=d;exact⟨i,v,h2,g _ _ k⟩
 |panic c=>exact⟨d.1,g _ _ d.2⟩
 |outgrown=>exact g _ _ d
 |_=>exact d
def S5(P:bS)(d:Func)(f:AV)(fm:V (Y×aE)):k7:=λF e a W=>bodyPost P d (λe i=>∃v g,e= .returned v/\bA g f v/\br F (λ_=>True) (St.kn ⟨[],fm,0,[]⟩) g i {tmps:=rI F.n undef,defers:=[]}) e a W
def abW(f:b8 P tt=ae){n}{i}{p}{q}{s}(B:kF tt i q=ad s)(l:p.results=q.toArray:=by rfl):eR n .ret i (S5 P p s i.mem):=by intro F x g W a h;let ⟨u,hu,d⟩:=zR f h l B;refine⟨h.defers.trans x.ds,u,hu,u,g,J,d,ax,x.ds.symm,?_,λe b C=>h.cL e b C,λe m b H k K L=>h.inj e m b H k K L,λ_ _ _ _ _=>trivial,λ_ _ _=>trivial,h.sub,h.below,h.le,h.fresh,λe o=>⟨A,(h.fS e o).2⟩⟩;intro t v Q;simp[St.kn,S]at Q
end
section
variable{n:Y}{sl cc:V (Y×AV)}{mem b9:V (Y×aE)}{nx:Y}{gd cr:V (Y×Bool)}{ops:Array aX}{draw:Bool}{p:Pr}{ks dx:V Ks}{i i' n0 cx:Y}
variable{R:St->Prop}{os:V aX}{d f:Y}{ty:TypeId}{pos:String}{ig:Array Edge}{dH:V aX}
def anh{first a}{g l}(m:runs dG n nx draw ops.toList os i ⟨sl,mem,n0,gd⟩ .t ks=(⟨ad d,.makeFunc (.func f) first a,ty,pos,ig,none⟩::dH,i',⟨cc,b9,cx,cr⟩,p,dx))(o:rE ⟨cc,b9,cx,cr⟩ first.toList=ad g)(q:rE ⟨cc,b9,cx,cr⟩ a.toList=ad l)
  (s:∀k,RG Tryz.prog n ops draw nx (i'+1) dH ⟨(d,.c<|.X<|1000000*nx+1000*i')::cc,(1000000*nx+1000*i',.gM f g l)::b9,cx,cr⟩ (dx++[k]) R)
  (u:p:=by exact Oy) (e:dj d n=ae:=by rfl):RG Tryz.prog n ops draw nx i os ⟨sl,mem,n0,gd⟩ ks R:=
 jX cj m u (anf o q s e)
end
open Fx
noncomputable def M3{p:Y}(H:bp p)(a:Fx p):V G:=AU<|iY H.pos a
def S6{p}(H:bp p) a:bs p (M3 H a):=(uL<|iY H.pos a).1
def ani{p}(H:bp p) a:fx (M3 H a)=a:=(uL<|iY H.pos a).2
noncomputable def gX{p:Y}(H:bp p)(f:V G)(a:Fx p):V G:=(aL (M3 H a) f p).2
section
variable{p:Y}(H:bp p){f:V G}(hf:bs p f)(jb:f≠[])
include hf jb
def xe(a:Fx p):bs p (gX H f a)/\Z (gX H f a)<Z f/\fx f∣fx (gX H f a)-a:=by let ⟨d1,d2,d3,d4,d5,d6⟩:=lq H.hp H.le (S6 H a).1 hf jb;have d:=cv.2 jb;refine⟨d5<|S6 H a,by show(aL (M3 H a) f p).2.length<_;omega,?_⟩;have:=LX H (S6 H a) hf jb;rwa[ani]at this
def anj{d:Fx p}{a:V G}(e:bs p a)(m:Z a<Z f)(g:fx f∣fx a-d):a=gX H f d:=by let ⟨m1,n,i⟩:=xe H hf jb d;have k:fx f∣fx a-fx (gX H f d):=og g<|m9 i;have l:=uO H k (by have:=GU H.pos (fx a:Fx p)<|fx<|gX H f d;rw[cO e,cO m1]at this;rw[cO hf];omega);exact tx e m1<|Dq l
end
def vk(p:Y)(f a d:V G):V G:=(aL (cH a d p) f p).2
def S7{p}(H:bp p){f a b}(e:bs p f)(d:f≠[]):bs p (vk p f a b)/\Z (vk p f a b)<Z f/\(fx f:Fx p)∣fx (vk p f a b)-fx a*fx b:=by let ⟨d1,d2,d3,d4,d5,d6⟩:=lq H.hp H.le (mr H.pos a b).1 e d;have g:=cv.2 d;refine⟨d5<|mr H.pos a b,by show(aL (cH a b p) f p).2.length<_;omega,?_⟩;have:=LX H (mr H.pos a b) e d;rwa[uY]at this
def gY(p:Y):V (V G)->Fx p
 |[]=>1
 |g::l=>fx g*gY p l
def HZ(p:Y):∀l m:V (V G),gY p (l++m)=gY p l*gY p m
 |[],m=>(one_mul _).symm
 |g::l,m=>by rw[lY,gY,gY,HZ p l m,mul_assoc]
def M4(p:Y):∀{l:V (V G)}{g:V G},g∈l->(fx g:Fx p)∣gY p l
 |a::l,g,hg=>by
  rcases bX.1 hg with rfl|hg
  .exact dvd_mul_right _ _
  .exact dI (M4 p hg) _
end Go.El
namespace Go.El
open Go Go.Proofs Go.RowKit
def ank(f:Y->G){i a}(d:i<a):E ((cd a).map f) i 0=f i:=by rw[aM,iV,kK d];rfl
open Fx
open Classical in
def S8{p:Y}(H:bp p):∀{l:V (V G)},(∀g∈l,Mon p g/\2<=Z g)->gY p l≠0/\Z l+1<=sz (gY p l)
 |[],_=>⟨pj H,by rw[gY,qF H];exact aW _⟩
 |g::l,a=>by
  let ⟨d,h2⟩:=S8 H (l:=l) λg e=>a g (by simp[e])
  let ⟨m1,i⟩:=a g ax;have f:=dK H (m1.jM H) d;rw[cO m1.c]at f;refine⟨o6 H (m1.jM H) d,?_⟩;rw[gY,gQ];omega
structure tJ(p:Y)(f:V G)(l:V (V G)):Prop where
 parts:∀g∈l,Mon p g/\2<=g.length/\bl (fx g:Fx p)
 prod:gY p l=fx f
structure ow(p:Y)(a:V G):Prop where
 H:bp p
 am:aH a
 l2:2<=a.length
 l9:a.length<=9
 co:Co (fx a:Fx p) (bt<|fx a)
def M5:∀(l m:V (V G)),dn (l++m)=dn l+dn m
 |[],m=>by rw[sA,dn,eH]
 |f::l,m=>by rw[lY,dn,dn,M5 l m];omega
def abX{p:Y}:∀l:V (V G),gY p l=fv l
 |[]=>rfl
 |f::l=>by rw[gY,fv,abX l]
def abY{p:Y}(H:bp p):∀{l:V (V G)},(∀g∈l,bl (fx g:Fx p))->pD (fv l:Fx p)->l.Pairwise (λx a=>Co (fx x:Fx p)<|fx a)
 |[],_,_=>List.Pairwise.nil
 |x::l,k,m=>by
  have i:∀{l:V (V G)}{a:V G},a∈l->(fx a:Fx p)∣fv l:=by
   intro l;induction l with
   |nil=>intro f d;cases d
   |cons a l n=>
    intro f d
    rcases bX.1 d with rfl|d
    .exact⟨fv l,by rw[fv,mul_comm]⟩
    .let ⟨w,hw⟩:=n d;exact⟨fx a*w,by rw[fv,hw,mul_assoc]⟩
  refine jr.2 ⟨λa o=>?_,abY H (λg q=>k g<|by simp[q]) (m.of_dvd ⟨fx x,J⟩)⟩;have s:=k x ax;refine Du H (λe=>by have:=s.1;rw[e,kh H.pos]at this;omega) λQ t B C=>m Q t ?_
  let ⟨u,hu⟩:=B;let ⟨v,F⟩:=dvd_trans C<|i o;refine⟨u*v,?_⟩;show fx x*fv l=_;rw[hu,F];ac_rfl
section
variable{p:Y}{a:V G}
def ow.p1(d:ow p a):1<(p:G):=by have:=d.H.hp.1;omega
def ow.trim(d:ow p a):aK (md p a)=md p a:=(d.am.md d.p1).trim
def ow.f(d:ow p a):Mon p (md p a)/\(md p a).length=Z a/\(fx (md p a):Fx p)=fx a:=by refine⟨⟨?_,(d.am.md d.p1).1,(d.am.md d.p1).2⟩,wA _ _,Zu a⟩;rw[<-d.trim];exact kg d.H.pos<|Aw d.H.pos a
def ow.ne(d:ow p a):(fx a:Fx p)≠0:=λe=>by have:=tA d.H d.am;rw[e,kh d.H.pos]at this;have:=d.l2;omega
def ow.kS(d:ow p a):pD (fx a:Fx p):=by let ⟨U,V,e⟩:=d.co;exact ZB d.H d.ne (D:=1) (U:=U) (V:=V) (mul_one _).symm e.symm
def S9:∀{l:V (V G)},(∀f∈l,2<=Z f)->Z l<=dn l/\∀f∈l,Z f<=1+dn l
 |[],_=>⟨aW _,λf d=>by cases d⟩
 |x::l,e=>by
  let ⟨i1,i2⟩:=S9 (l:=l) λf d=>e f (by simp[d])
  have:=e x ax;refine⟨by rw[gQ,dn];omega,λf d=>?_⟩;rw[dn];rcases bX.1 d with rfl|d
  .omega
  .have:=i2 f d;omega
end
def abZ(a:V G):∀n,((ln a n:Y):G)=sm (λi=>(Int.natAbs (E a i 0):G)) n
 |0=>rfl
 |n+1=>by rw[ln,sm,<-abZ a n,wh]
def ab0{a}(n:aH a){g}(f:aH g)(t:Rx.zx g∣Rx.zx a) i:(E g i 0).natAbs<=fY a:=by
 let ⟨k,m⟩:=t;have d:Rx.Mo k:=by have:=Rx.nf n;rw[m]at this;exact this.yy<|Rx.nf f
 let ⟨i1,_⟩:=Rx.Ma d (Rx.nf f)<|m▸Rx.AZ a;let ⟨q,q1,u⟩:=Rx.L1 i1;subst u;have s:aH q:=Rx.L2 q1 d;have o:=Rx.L3 m.symm;have F:=cv.2 s.1;have H:=cv.2 f.1;have K:=cv.2 n.1;have v:=Rx.dK d.ne (Rx.nf f).ne;rw[<-m,Rx.ko n.can,Rx.ko q1,Rx.ko f.can]at v;have p:=Rx.Zh (A:=ps g) (B:=ps q) (k:=Z g-1) (l:=Z q-1) (λj x=>eN g O) (λj x=>eN q O) (by rw[cy,s.2];decide) i;rw[PS.mul_comm,o,(O:Z g-1+(Z q-1)=Z a-1)]at p;have C:Rx.mX (Z a-1) (ps a)=((ln a (Z a):Y):G):=by rw[abZ,Rx.mX,(O:Z a-1+1=Z a)];rfl
 rw[C]at p;have e:((fY a:Y):G)=2^(Z a-1)*((ln a (Z a):Y):G):=by rw[fY,eY,s7,et];rfl
 rw[<-e,cy]at p;omega
def jm(p:Y)(f:V G):V G:=(cd<|Z f-1).map λi=>((((i+1)%p:Y):G)*E f (i+1) 0)%(p:G)
def H2 p f:Z (jm p f)=Z f-1:=by simp[jm]
def S' p f{i}(a:i<Z f-1):E (jm p f) i 0=((((i+1)%p:Y):G)*E f (i+1) 0)%(p:G):=by unfold jm;rw[aM,iV,kK a];rfl
def Ta(p:Y) f:(fx (jm p f):Fx p)=bt (fx f):=mk_eq.2 (Cg.of λi=>by
 show E (jm p f) i 0%(p:G)=((i:G)+1)*E f (i+1) 0%(p:G);by_cases h:i<Z f-1
 .rw[S' p f h,lM,F9,o5,lM,<-o5];rfl
 .rw[eN _ (by rw[H2];omega),eN f O,gy])
def H3{p:Y}(a:0<p) f:rp p (jm p f):=λi=>by
 by_cases h:i<Z f-1
 .rw[S' p f h];exact⟨ij _ O,ik _ O⟩
 .rw[eN _ (by rw[H2];omega)];exact⟨gK _,O⟩
def D9(p:Y)(a:V G):Bool:=decide<|List.length (fH p (aK<|md p a)<|aK<|jm p<|aK<|md p a)=1
def ab1{p}(H:bp p) a:D9 p a=ae↔Co (fx a:Fx p) (bt<|fx a):=by
 have e:bs p (aK<|md p a):=kg H.pos<|Aw H.pos a;have f:bs p (aK<|jm p<|aK<|md p a):=kg H.pos<|H3 AW _;have d:(fx (aK<|md p a):Fx p)=fx a:=by rw[DD,Zu]
 have g:(fx (aK<|jm p<|aK<|md p a):Fx p)=bt (fx a):=by rw[DD,Ta,d]
 unfold D9;rw[decide_eq_true_iff,ajc H.hp H.le e f,<-akP,d,g]
def Tb p f(m:2<=p):∃k,1<=k/\f<p^k/\∀d,1<=d->d<k->p^d<=f:=by
 have i:∀n,n<p^n:=λn=>hP Nat.lt_two_pow_self<|AQ m n
 have l:∀n,(∀d,1<=d->d<n+1->p^d<=f)\/∃k,1<=k/\f<p^k/\∀d,1<=d->d<k->p^d<=f:=by
  intro n;induction n with
  |zero=>exact .inl λd a f=>by omega
  |succ n g=>
   rcases g with g|g
   .by_cases h:p^(n+1)<=f
    .refine .inl λd i o=>?_
     by_cases e:d=n+1
     .rw[e];exact h
     .exact g d i O
    .exact .inr ⟨n+1,O,O,g⟩
   .exact .inr g
 rcases l (f+1)with h|h
 .have:=h (f+1) O O;have:=i<|f+1;omega
 .exact h
open Classical in
noncomputable def mF(p a:Y):Y:=if hp:2<=p then AU (Tb p a hp)else 1
def ab2{p}(d:2<=p) a:1<=mF p a/\a<p^mF p a/\∀f,1<=f->f<mF p a->p^f<=a:=by have e:mF p a=AU (Tb p a d):=dif_pos d;rw[e];exact uL<|Tb p a d
structure H4(a:V G):Prop where
 am:aH a
 l2:2<=a.length
 l9:a.length<=9
 aB:∀i,aG 6 (a.getD i 0)
 ex:∃p∈qM,Co (fx a:Fx p) (bt<|fx a)
def anl{p}(a:p∈qM):bp p:=⟨akC a,by have:=(Zi a).2;omega⟩
open Classical in
def anm{a}(f:Rx.sz a=2):Rx.bl a:=by
 refine⟨O,λX Y e=>?_⟩;have g:a≠0:=λe=>by rw[e,Rx.kh]at f;omega
 have i:X≠0:=λd=>g (by rw[e,d,Rx.zero_mul])
 have k:Y≠0:=λd=>g (by rw[e,d,Rx.mul_zero])
 have l:=Rx.dK i k;rw[<-e,f]at l;have:=Rx.eO i;have:=Rx.eO k;omega
def H4.bB{a}(d:H4 a):aG 8 ((2*fY a:Y):G):=by have f:=Y5 a d.aB (i:=Z a) (by have:=d.l9;omega);have e:2^(Z a-1)<=2^8:=fh T (by have:=d.l9;omega);unfold aG at*;rw[ob]at*;have g:fY a<=ln a (Z a)*2^8:=ia _ e;omega
def H4.mBp{a}(f:H4 a){p:Y}(q1:2<=p)(m:p<4294967296):aG 9 ((p:G)^mF p (2*fY a))/\mF p (2*fY a)<=257:=by
 have d:=f.bB;let ⟨n,o,g⟩:=ab2 (p:=p) q1<|2*fY a;generalize mF p (2*fY a)=k at*;generalize 2*fY a=b at*;unfold aG at d;rw[ob]at d;by_cases e:k=1
 .subst e;refine⟨?_,O⟩;unfold aG;rw[fb,n7,jR,ob];have:(4294967296:Y)^1<=4294967296^9:=fh T T;omega
 .obtain⟨j,rfl⟩:∃j,k=j+1:=⟨k-1,O⟩;have q:=g j O O;have s:p^j<4294967296^8:=O;constructor
  .unfold aG;rw[<-s7,ob,fp];have t:p^j*p<=p^j*4294967296:=ia _ O;omega
  .have i:2^j<=p^j:=AQ O j;have l:(2:Y)^j<2^256:=by refine uA i ?_;have:(4294967296:Y)^8=2^256:=T;omega
   have:=(Nat.pow_lt_pow_iff_right (a:=2) T).1 l;omega
end Go.El
