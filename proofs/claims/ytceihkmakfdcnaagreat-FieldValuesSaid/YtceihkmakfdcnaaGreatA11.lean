/- The fast interpreter, part 9: it is sound. Own work; no condition. -/
import Derived.RangeFuncOwn
import Derived.RangeFuncLeaves
import Derived.Scope
import Derived.Test.YtceihkmakfdcnaaGreatA10
import Derived.Test.YtceihkmakfdcnaaGreatA4
import Derived.Test.YtceihkmakfdcnaaGreatA9
import Derived.Test.YtceihkmakfdcnaaGreatA5
import Derived.Test.YtceihkmakfdcnaaGreatA8
import Derived.Test.YtceihkmakfdcnaaGreatA6
import Derived.Test.YtceihkmakfdcnaaGreatA7
set_option linter.all false
set_option maxHeartbeats 16000000
set_option maxRecDepth 100000
open Array renaming replicate->sV
open Bool renaming true->af,false->ah
open Classical renaming choose->A2
open Go renaming Program->bZ,Code->gA,FuncId->jB,World->cD,Value->a4,Deferred->Is,Operand->dQ,Oper->bh
open Go.Deferred renaming ofValue->F1
open Go.El renaming iO->o
open Go.Exit renaming inBlock->Cx
open Go.Operand renaming tmp->abZ
open Go.World renaming putObj_heap_other->Ns,putObj_heap_same->am5,alloc_heap_new->anI
open Go.stepG renaming exec->am0
open Int renaming toNat->ae
open List renaming length->Z,drop->az,getD->E,range'->abU,take->h,range->cc
open List.Pairwise renaming nil->EA
open Nat renaming ble->eJ,strongRecOn->ER,beq->gR,blt->dk
open Option renaming some->ad
open _root_ renaming Nat->Y,List->V,Option->aw,Int->O
namespace Go.El
open Go Go.Proofs Go.RowKit
def dt(r:Rc)(d:Ex)(t:Tr)(a:Ms)(k:Y)(c:V Y):Prop:=match d with
 | .de=>r= .de t a k c
 | .fS id=>r= .fS id t a k c
 | .ret=>r= .ret t a k c
def Ta(P:bZ)(dep n l:Y)(c:gA)(t:Tr)(f:Ms)(k:Y)(m:V Y)(p:Ex)(g:Tr)(a:Ms)(i:Y)(d:V Y):Prop:=
 Left l dep n t f k m g a i d/\F9 P n c (bl dep n t f.flatten) k p (bl dep n g a.flatten) i
section
variable{P:bZ}{tt:TT}{du:jB->V AV->Ms->aw (V AV×AV)}
def Tb{n}(a:n<=4096):n<=4^et n:=by
 unfold et;split
 .simpa using by omega
 .split
  .simpa using by omega
  .split
   .simpa using by omega
   .split
    .simpa using by omega
    .simpa using a
def Bo(dep:Y):∀(vs:V AV)(i:Y)(t:Tr)(a:Y),i+Z vs<=4^dep->a<4^dep->iY (cP dep a) (mM dep vs i t)=match o a (dv i vs)with|some v=>ad v|none=>iY (cP dep a) t
 |[],i,t,a,_,_=>rfl
 |v::vs,i,t,a,hle,f=>by
  have g:mM dep (v::vs) i t=mM dep vs (i+1) (jn (cP dep i) v t):=rfl;simp only[eB]at hle;rw[g,Bo dep vs (i+1) _ a G f];have d:∀(l:V AV)(c:Y),i<c->o i (dv c l)=none:=by
   intro l;induction l with
   |nil=>intro _ _;rfl
   |cons y l k=>intro c m;simp only[dv,o];rw[b G];exact k (c+1) G
  simp only[dv,o];by_cases h:i=a
  .subst h;rw[aq J,d vs (i+1) G];simp only[H6]
  .rw[b h];rw[D3 _ _ _ _ D6 (λn=>h<|Bc dep G f n)]
def yY:∀(vs:V AV)(i d:Y)(v:AV),o d (dv i vs)=ad v->d<i+Z vs/\∀f∈v.ak,f∈cY vs
 |[],i,d,v,c=>by simp[dv,o]at c
 |x::vs,i,d,v,c=>by
  simp only[dv,o]at c;split at c
  .rename_i g;cases c;subst g;exact⟨ay,λf a=>by simp[cY,a]⟩
  .let ⟨k,h2⟩:=yY vs (i+1) d v c;exact⟨bX,λf a=>by simp[cY,h2 f a]⟩
def abD{dep n}{t}{c}{x}{v}(a:Ij tt dep n t c x=ad v):oc tt (bl dep n t c.flatten) x=ad v:=by
 cases x with
 |tmp j=>
  simp only[Ij]at a
  split at a
  .rename_i d;simp only[oc,bl,sb,aq<|yV d];exact a
  .cases a
 |cell j ty=>
  simp only[Ij]at a
  split at a
  .rename_i d;have e:o j (bl dep n t c.flatten).sl=iY (cP dep j) t:=by show o j (eC dep n t)=_;rw[sb,aq<|yV d]
   simp only[oc,e];split at a
   .rename_i f i k;simp only[k];have l:o f (bl dep n t c.flatten).mem=bu f c:=iZ f c;simp only[l];split at a
    .rename_i E p r sz u m g;simp only[m,g];exact a
    .cases a
   .cases a
  .cases a
def abE{dep n:Y}{t:Tr}{d:Ms}:∀{xs:V ResultVar}{c:V (Bool×V C)},M' tt dep n t d xs=ad c->oe tt (bl dep n t d.flatten) xs=ad c
 |[],c,a=>a
 |x::xs,c,a=>by
  simp only[M']at a;split at a
  .rename_i v f;split at a
   .rename_i k r g i;cases a;simp only[oe,abD f,g,abE i]
   .cases a
  .cases a
def abF{dep n}{t}{d}{xs}{v}(a:En tt dep n t d xs=ad v):lI tt (bl dep n t d.flatten) xs=ad v:=by
 unfold En at a;unfold lI;split at a
 .exact abD a
 .rename_i xs c;split at a
  .rename_i g f;cases a;have:=abE f;split
   .rename_i x;exact absurd J<|c x
   .rw[this];rfl
  .cases a
def Nn(own:Mem):∀(f:Y)(c:V Y)(a:Mem),(∀d g,o d a=ad g->o d own=ad g)->∀d g,o d (xb f own c a)=ad g->o d own=ad g
 |0,_,a,l,d,g,k=>l d g (by simpa[xb]using k)
 |f+1,[],a,l,d,g,k=>l d g (by simpa[xb]using k)
 |f+1,i::c,a,l,d,g,k=>by
  simp only[xb]at k;split at k
  .exact Nn own f c a l d g k
  .split at k
   .rename_i t n;refine Nn own f _ _ ?_ d g k;intro p x m;simp only[o]at m;split at m
    .rename_i r;cases m;subst r;rw[<-w5];exact n
    .exact l p x m
   .exact Nn own f c a l d g k
def Ip{k:Y}{g:Ms}:∀{l:V Y},Bk k g l=af->∀d∈l,k<=d\/∃f,bu d g=ad f
 |[],_,d,c=>by cases c
 |x::r,c,d,a=>by
  simp only[Bk]at c;split at c
  .rename_i i;rcases bY.1 a with rfl|a
   .exact .inl<|dc i
   .exact Ip c d a
  .split at c
   .rename_i f m;rcases bY.1 a with rfl|a
    .exact .inr ⟨f,m⟩
    .exact Ip c d a
   .cases c
def abG{k:Y}{g:Ms}:∀{l:Mem},Na k g l=af->∀d c,o d l=ad c->k<=d/\∀m∈c.ak,k<=m\/∃c,bu m g=ad c
 |[],_,d,c,a=>by simp[o]at a
 | (i,x)::r,a,d,c,f=>by
  simp only[Na]at a;split at a
  .rename_i n;split at a
   .rename_i p;simp only[o]at f;split at f
    .rename_i t;cases f;subst t;exact⟨dc n,Ip p⟩
    .exact abG a d c f
   .cases a
  .cases a
def No{k:Y}{n g:Ms}:∀{l:V Y},Eo k n g l=af->∀i∈l,∀f,bu i g=ad f->∀p∈f.ak,k<=p\/∃f,bu p n=ad f
 |[],_,i,c=>by cases c
 |x::r,c,i,a=>by
  simp only[Eo]at c;split at c
  .rename_i u d;split at c
   .rename_i t;rcases bY.1 a with rfl|a
    .intro f m;rw[d]at m;cases m;exact Ip t
    .exact No c i a
   .cases c
  .rename_i d;rcases bY.1 a with rfl|a
   .intro f m;rw[d]at m;cases m
   .exact No c i a
def abH{k:Y}:∀{l:Mem},SO k l=af->∀a c,o a l=ad c->k<=a
 |[],_,a,c,f=>by simp[o]at f
 | (i,x)::r,f,a,c,g=>by
  have d:Bool.rec (motive:=λ_=>Bool) ah (SO k r) (eJ k i)=af:=f;cases m:eJ k i with
  |false=>rw[m]at d;cases d
  |true=>
   rw[m]at d
   simp only[o]at g
   split at g
   .rename_i e;subst e;exact dc m
   .exact abH d a c g
def abI(a:Mem)(rest:Ms)(c:Y):bu c (yT a rest)=match o c a with|some d=>ad d|none=>bu c rest:=by
 rw[<-iZ];cases rest with
 |nil=>simp only[yT,JS,List.flatten_nil,gO];cases o c a<;>rfl
 |cons m r=>
  rw[show(yT a<|m::r).flatten=a++(m++r.flatten)by simp[yT],F5,(ay:m++r.flatten=(m::r).flatten),iZ]
  cases o c a<;>rfl
def Np(a:Y):∀(g:V Y)(c:Ms),bu a (uY g c)=if a∈g then(bu a c).map Em else bu a c
 |[],c=>by simp[uY]
 |id::r,c=>by
  have i:=Np a r;unfold uY;split
  .rename_i E sz k d;rw[i,Ea,d];by_cases h2:id=a
   .subst h2;simp[d,Em]
   .have l:¬a=id:=λe=>h2 e.symm
    simp[h2,l]
  .rename_i f;rw[i];by_cases h2:a=id
   .subst h2;have e:(bu a c).map Em=bu a c:=by
     cases d:bu a c with
     |none=>rfl
     |some b=>
      cases b with
      |box E sz k=>exact absurd d<|f E sz k
      |vec _ _ _=>rfl
      |jG _ _ _=>rfl
      |fz _ _=>rfl
      |mp _ _ _=>rfl
      |it _ _ _=>rfl
    simp[e]
   .simp[h2]
def Tc:∀(c:V Y)(a:Ms),lz a (uY c a)
 |[],a=>lz.refl a
 |id::r,a=>by
  unfold uY;split
  .exact(SP id _ a).trans<|Tc r _
  .exact Tc r a
def Td(cp:cd P tt=af)(yZ:∀f vs l l7 r,du f vs l=ad (l7,r)->al P f l7 r){body:xc}
  (amB:∀dep n ke c t l k wl cz t' F k' kA,n<=4^dep->ke<=k->dz dep n t k->eN l k->dt (body dep n ke c t l k wl) cz t' F k' kA->Ta P dep n ke c t l k wl cz t' F k' kA):uZ P (sd P tt du body):=by
 constructor
 intro f vs l k r F k' wl h jo xX
 unfold sd at h
 split at h
 .rename_i l7 r0 hc;dsimp only at h;generalize Il l 200 (cY vs) []=D at h;split at h
  .rename_i A;simp only[Cr.ok.injEq]at h;obtain⟨rfl,rfl,rfl,rfl⟩:=h;simp only[cr]at A;have hm:cY l7=[]:=List.isEmpty_iff.1 A.1.2;have hf:=yZ _ _ _ _ _ hc;have hr:r0.ak=[]:=hf.iC;have p:∀a d,bu a (uY D l)=ad d->∃H,bu a l=ad H/\d.ak=H.ak/\(a∉D->d=H):=λa d hb=>by
    rw[Np]at hb;split at hb
    .rename_i hd;obtain⟨H,h0,rfl⟩:=cL.1 hb;exact⟨H,h0,abg H,λh=>absurd hd h⟩
    .exact⟨d,hb,J,λ_=>rfl⟩
   refine⟨al4 hf hm D (λa=>by rw[iZ,iZ,Np]) (λa d hl=>?_) A.1.1 k,λa g=>(by rw[hr]at g;cases g),λa d hb=>?_,λa _ mi=>(by rw[Np,b mi]),λa d hb=>(by let ⟨H,h0,_⟩:=p a d hb;exact .inr ⟨H,h0⟩),λa d hb=>(by let ⟨H,h0,oh,_⟩:=p a d hb;rw[oh];exact jo a H h0),λa g=>(by rw[hr]at g;cases g),Tc D l⟩;rotate_left
   .by_cases hd:a∈D
    .exact .inr<|No A.2 a hd d hb
    .let ⟨H,h0,_,he⟩:=p a d hb;rw[he hd];exact .inl h0
   unfold lkS at hl;split at hl
   .rename_i ha;rw[iZ];refine⟨?_,hl⟩;let ⟨x,W,he⟩:=List.any_eq_true.1 ha;rw[kO he];exact W
   .cases hl
  .cases h
 .split at h
  .rename_i M hf;split at h
   .rename_i c hb;split at h
    .rename_i A;simp only[cr]at A;let ⟨⟨uf,X⟩,jU⟩:=A;have X:Z vs<=M.ntmps:=dc X;have hn:M.ntmps<=4^et M.ntmps:=Tb<|dc jU;have y4:∀a,bu a ([]::l)=bu a l:=λ_=>rfl
     have oI:dz (et M.ntmps) M.ntmps (mM (et M.ntmps) vs 0 .e) k:=by
      intro j v hj hv a g;rw[Bo _ vs 0 .e j G G,yN]at hv;split at hv
      .rename_i u hu;cases hv;exact xX a<|(yY vs 0 j v hu).2 a g
      .cases hv
     have rB:(bl (et M.ntmps) M.ntmps (mM (et M.ntmps) vs 0 .e) ([]::l:Ms).flatten).kn=St.kn ⟨dv 0 vs,l.flatten,0,[]⟩:=by
      rw[D5];funext key;cases key with
      |m a=>simp[St.kn]
      |s j=>
       simp only[St.kn]
       by_cases hj:j<M.ntmps
       .rw[aq hj,Bo _ vs 0 .e j G G,yN];cases o j (dv 0 vs)<;>rfl
       .rw[b hj];cases hl:o j (dv 0 vs)with
        |none=>rfl
        |some v=>have:=(yY vs 0 j v hl).1;omega
     have fin:∀(cz:Ex)(O:Tr)(Q:Ms)(N:Y)(K:V Y),(cz= .de\/cz= .ret)->dt (body (et M.ntmps) M.ntmps k c (mM (et M.ntmps) vs 0 .e) ([]::l) k []) cz O Q N K->leave tt M (et M.ntmps) l k O Q N K= .ok r F k' wl->
       CX P f vs l.flatten k r F.flatten k'/\(∀a∈r.ak,k<=a\/∃d,bu a l=ad d)/\(∀a d,bu a F=ad d->bu a l=ad d\/∀j∈d.ak,k<=j\/∃d,bu j l=ad d)/\
       (∀a,a<k->a∉wl->bu a F=bu a l)/\(∀a d,bu a F=ad d->k<=a\/∃H,bu a l=ad H)/\eN F k'/\(∀a∈r.ak,a<k')/\lz l F:=by
      intro cz O Q N K he hrc B
      let ⟨hL,hG⟩:=amB _ _ _ _ _ _ _ _ _ _ _ _ _ hn (a7 k) oI (show eN ([]::l) k from λa d hb=>jo a d hb) hrc
      unfold leave at B
      split at B
      .rename_i r1 uq;split at B
       .rename_i own rest;dsimp only at B;generalize hsv:xb 1000 own (r1.ak++Ik rest K) []=sv at B;split at B
        .rename_i q;simp only[Cr.ok.injEq]at B;obtain⟨rfl,rfl,rfl,rfl⟩:=B;simp only[cr]at q;let ⟨⟨⟨Iq,Bb⟩,hc3⟩,hc4⟩:=q;have L:=abF uq;have amG:=abH hc4;have w:=Nn own 1000 (r1.ak++Ik rest K) [] (λa d h=>by simp[o]at h);rw[hsv]at w;have S:=abG Bb;have y:∀a,bu a (own::rest)=match o a own with|some d=>ad d|none=>bu a rest:=by
          intro a;have e1:bu a (own::rest)=match lZ a own with|some d=>ad d|none=>bu a rest:=rfl
          rw[e1,w5]
         have z:∀a,a<k->bu a (own::rest)=bu a rest:=by
          intro a g;rw[y];cases ho:o a own with
          |none=>rfl
          |some d=>have:=amG a d ho;omega
         have FJ:=hL.tl;have I:∀i j d,bu j (az i rest)=ad d->∃H,bu j (az i l)=ad H:=by intro i j d hb;have:=FJ (i+1) j d G vD;simpa using this
         have Fh:∀j d,bu j rest=ad d->j<k/\∃H,bu j l=ad H:=by
          intro j d hb;let ⟨H,R⟩:=I 0 j d vD;have R:bu j l=ad H:=by simpa using R
          exact⟨(jo j H R).1,H,R⟩
         have p:∀a d,bu a (yT sv rest)=ad d->bu a (own::rest)=ad d/\((k<=a/\o a sv=ad d)\/(a<k/\bu a rest=ad d)):=by
          intro a d hb;rw[abI]at hb;cases U:o a sv with
          |some x=>
           rw[U]at hb
           cases hb
           exact⟨by rw[y,w a d U],.inl ⟨(S a d U).1,J⟩⟩
          |none=>
           rw[U]at hb
           have iN:=(Fh a d hb).1
           exact⟨by rw[z a iN];exact hb,.inr ⟨iN,hb⟩⟩
         refine⟨?_,Ip Iq,?_,?_,?_,?_,?_,?_⟩
         .refine ahU cp hf hb uf X he ?_ L (λa d hb=>?_)
          .rw[F9]at hG⊢;rw[rB]at hG;exact hG
          .show o a (own::rest:Ms).flatten=ad d;rw[iZ];exact(p a d Nj).1
         .intro a d hb;rcases(p a d hb).2 with⟨T,h2⟩|⟨T,h2⟩
          .exact .inr (S a d h2).2
          .by_cases hw:a∈K
           .exact .inr<|No hc3 a hw d h2
           .have:=(hL.log a T hw).2;rw[z a T,h2,y4]at this;exact .inl this.symm
         .intro a g hw;have T:=(hL.log a g hw).2;rw[z a g,y4]at T;rw[abI];have hns:o a sv=none:=by
           cases U:o a sv with
           |none=>rfl
           |some x=>have:=(S a x U).1;omega
          rw[hns];exact T
         .intro a d hb;rcases(p a d hb).2 with⟨T,h2⟩|⟨T,h2⟩
          .exact .inl T
          .exact .inr (Fh a d h2).2
         .intro a d hb;exact hL.eN a d (p a d hb).1
         .intro a g;have amI:∀a∈r1.ak,a<N:=by
           have hwk:∀(x:ResultVar)(v:AV),oc tt (bl (et M.ntmps) M.ntmps O (own::rest:Ms).flatten) x=ad v->∀a∈v.ak,a<N:=by
            intro x v W a g;cases x with
            |tmp j=>
             simp only[oc,bl,sb]at W
             split at W
             .rename_i hj;exact hL.dz j v hj W a g
             .cases W
            |cell j ty=>
             simp only[oc]at W
             split at W
             .rename_i pid off hp;split at W
              .rename_i E bz cs sz ag Gb Jz;have h3:bu pid (own::rest)=ad (.box E bz cs):=by rw[<-iZ];exact Gb
               exact(hL.eN pid _ h3).2 a<|xA W a g
              .cases W
             .cases W
           have wo:∀(xs:V ResultVar)(ss:V (Bool×V C)),oe tt (bl (et M.ntmps) M.ntmps O (own::rest:Ms).flatten) xs=ad ss->∀a∈fP ss,a<N:=by
            intro xs;induction xs with
            |nil=>intro ss h a g;simp only[oe,ar]at h;subst h;simp[fP]at g
            |cons x xs ih=>
             intro ss h a g
             simp only[oe]at h
             split at h
             .rename_i v hv;split at h
              .rename_i s r U hr;cases h;simp only[fP,bg]at g;rcases g with g|g
               .rw[Kg U]at g;exact hwk x v hv a g
               .exact ih r hr a g
              .cases h
             .cases h
           intro a g;unfold lI at L;split at L
           .exact hwk _ _ L a g
           .simp only[cL]at L;obtain⟨ss,hss,rfl⟩:=L;exact wo _ ss hss a g
          exact amI a g
         .intro i j d hi hb;have:bu j (az i rest)=ad d:=by
           obtain⟨i,rfl⟩:∃i',i=i'+1:=⟨i-1,G⟩;cases rest with
           |nil=>simpa[yT]using hb
           |cons m r=>simpa[yT]using hb
          exact I i j d this
        .cases B
       .cases B
      .cases B
     split at h
     .rename_i O Q N K Er;exact fin .de O Q N K (.inl J) Er h
     .rename_i O Q N K Er;exact fin .ret O Q N K (.inr J) Er h
     .cases h
    .cases h
   .cases h
  .cases h
end
section
variable{P:bZ}{tt:TT}{du:jB->V AV->Ms->aw (V AV×AV)}
def abK{S:Fence}{n}{c}{α:Type}(L:α->Act->cD->Prop)(M:α->Y){Q:Exit->Act->cD->Prop} x{a}{i}(A:L x a i)
  (round:∀x a i,L x a i->c.wpIn S n P (Exit.then (λu v=>∃B,L B u v/\M B<M x) Q) a i):(Code.loop c).wpIn S n P Q a i:=by
 intro b k K W X h
 have o:∀j x a i,M x=j->L x a i->
   ∃e u v,Q e u v/\ArrivesIn (Machine.fenced P S) P (lone (b.atR a<|.code c:: .inLoop c::k) K i) b k K e u v:=by
  intro j
  induction j using ER with
  |_ j s=>
   intro x a i y z
   let ⟨e,f,g,p,d⟩:=round x a i z b (.inLoop c::k) K W X h
   cases e with
   |normal=>
    let ⟨B,r,q⟩:=p
    let ⟨C,F,H,t,m⟩:=s (M B) (y▸q) B f g J r
    exact⟨C,F,H,t,.of_steps (StepsIn.trans d<|.one (fenced_calm X h J) stepR_inLoop) m⟩
   |exit id=>exact⟨_,f,g,p,.pass (x:= .inLoop c) J (λ_ _=> .inl ay) d⟩
   |goto l=>exact⟨_,f,g,p,.pass (x:= .inLoop c) J (λ_ _=> .inl ay) d⟩
   |ret=>exact⟨_,f,g,p,.pass (x:= .inLoop c) J (λ_ _=> .inl ay) d⟩
   |panic ch=>exact⟨_,f,g,p,.pass (x:= .inLoop c) J (λ_ _=> .inl ay) d⟩
   |outgrown=>exact⟨_,f,g,p,.pass (x:= .inLoop c) J (λ_ _=> .inl ay) d⟩
 let ⟨e,u,v,p,d⟩:=o _ x a i J A
 exact⟨e,u,v,p,.of_steps (.one (fenced_calm X h J) stepR_loop) d⟩
def abL(jV:P.follows .mixedOrders=af)(cp:cd P tt=af){pj:l6}(om:uZ P pj){dep n ke}(hn:n<=4^dep){c}{H}{gs}{ps}(d:M8 dep n c.toList H=ad (gs,ps)){t}{ms}{k}{wl}(ph:ke<=k)(oI:dz dep n t k)(jo:eN ms k){t'}{u5}{k'}{kA}{fs}
  (cF:w8 pj tt n ke gs t ms k wl []= .ok t' u5 k' kA fs) (hp:∀l,ps=ad l->Ee fs.reverse l=af) id:Ta P dep n ke (.region id c H) t ms k wl .de t' u5 k' kA:=by
 unfold M8 at d
 split at d
 .rename_i gs' Qv;have hgg:gs'=gs:=by
   split at d
   .cases d;rfl
   .split at d
    .cases d;rfl
    .cases d
  subst hgg;let ⟨ds,cl,kk,b,hS,⟨Iq,Bb⟩,Io,S7,K,hL⟩:=abz cp om hn c.toList 0 cF Qv ay ph oI jo;refine⟨hL,hL.le,λF hF mi g W a e=>?_⟩;subst hF;refine amz jV hS ?_ (λg W a h'=>⟨J,g,h'⟩) e mi.region;intro hd;subst hd;simp only at d;split at d
  .rename_i q;cases d;have ho:=VC q;refine⟨ho.1,?_⟩;have M:=hp _ J;rw[Io]at M;simp only[gO,List.reverse_reverse]at M;intro i j OH hj p L;have hds:Z ds=c.size:=by simpa using hS.len
   have as6:Z b=c.size:=by simpa using S7
   have w:∀x,x<c.size->∃o a f,c.toList[x]? =ad o/\kk[x]? =ad a/\b[x]? =ad f/\(∀p∈dx (E ds x ([],[])).1,p∈a.1)/\(∀p∈fJ (E ds x ([],[])).2,p∈a.2):=by intro x hx;have h1:x<Z kk:=G;have h2:x<Z ds:=G;have h3:x<Z c.toList:=CZ;have h4:x<Z b:=G;refine⟨_,_,_,cH h3,cH h1,cH h4,?_⟩;rw[zR ds _ x h2];exact Bb x h2 h1
   let ⟨oi,ai,y,Q,hai,z,D,v⟩:=w i G;let ⟨oj,aj,I,S,haj,N,O,A⟩:=w j hj;let ⟨⟨R,B⟩,mZ⟩:=K i ai oi y hai Q z;let ⟨⟨T,C⟩,htj⟩:=K j aj oj I haj S N;have X:qt (xa c.toList oi) (xa c.toList oj)=af->lG c i j:=by
    intro rA;refine ho.2 i j _ _ OH hj ?_ ?_ rA
    .rw[iT,Q];rfl
    .rw[iT,S];rfl
   have U:∀x,((mN y x/\mN I x)\/(mN y x/\q5 I x)\/(q5 y x/\mN I x))->lG c i j:=by
    intro x hx;let ⟨Q8,hms⟩:=O' (ops:=c) c.toList [] ay ay (λk hk=>by simp at hk);have V:j<Z (oZ c.toList []):=G;by_cases hb:(oZ c.toList [])[j].testBit i=af
    .exact hms j V i hb
    .exfalso;have Y:nv oi=af:=by
      cases e:nv oi with
      |true=>rfl
      |false=>rw[mZ e]at hx;simp[mN,q5]at hx
     have amQ:nv oj=af:=by
      cases e:nv oj with
      |true=>rfl
      |false=>rw[htj e]at hx;simp[mN,q5]at hx
     have KG:=abC (opsL:=c.toList) Q Y (ml:=oZ c.toList []) (os:=c.toList) (j0:=0) (a:=j) (m:=(oZ c.toList [])[j]) (cH V) S amQ G vD;have hcf:=abA M i (0+j) KG;have e1:b.getD i .n=y:=by rw[aV,z];rfl
     have e2:b.getD (0+j) .n=I:=by rw[eF,aV,N];rfl
     rw[e1,e2]at hcf;let ⟨n1,n2,n3⟩:=amA hcf x;rcases hx with hx|hx|hx
     .exact n1 hx
     .exact n2 hx
     .exact n3 hx
   cases p with
   |s x=>
    refine X ?_
    rcases L with⟨r,u⟩|⟨r,u⟩|⟨r,u⟩
    .have a1:=B _<|v _ r;have a2:=C _<|A _ u;simp only[qt,Cv a1 a2,JK]
    .have a1:=B _<|v _ r;have a2:=T _<|O _ u;simp only[qt,Cv a1 a2,JK,JL]
    .have a1:=R _<|D _ r;have a2:=C _<|A _ u;simp only[qt,Cv a1 a2,JL]
   |m x=>
    refine U x ?_
    rcases L with⟨r,u⟩|⟨r,u⟩|⟨r,u⟩
    .exact .inl ⟨B _<|v _ r,C _<|A _ u⟩
    .exact .inr<|.inl ⟨B _<|v _ r,T _<|O _ u⟩
    .exact .inr<|.inr ⟨R _<|D _ r,C _<|A _ u⟩
  .cases d
 .cases d
def mO{a:Ex}{t}{c}{k}{d}(f:dt .no a t c k d):False:=by cases a<;>simp[dt]at f
def dt.inj{r:Rc}{e f:Ex}{t g}{i a}{k l}{m c}(n:dt r e t i k m)(d:dt r f g a l c):e=f/\t=g/\i=a/\k=l/\m=c:=by cases e<;>cases f<;>simp only[dt]at n d<;>rw[n]at d<;>simp at d<;>simp[d]
def dt.get{r:Rc}:r= .no\/∃d t a k c,dt r d t a k c:=by
 cases r with
 |no=>exact .inl J
 |de t a k c=>exact .inr ⟨.de,t,a,k,c,J⟩
 |fS id t a k c=>exact .inr ⟨.fS id,t,a,k,c,J⟩
 |ret t a k c=>exact .inr ⟨.ret,t,a,k,c,J⟩
def Es(jV:P.follows .mixedOrders=af)(cp:cd P tt=af)(yZ:∀f vs S l7 r,du f vs S=ad (l7,r)->al P f l7 r):
  ∀(f dep n ke:Y)(c:gA)(t:Tr)(S:Ms)(k:Y)(wl:V Y)(e:Ex)(t':Tr)(L:Ms)(k':Y)(M:V Y),n<=4^dep->ke<=k->dz dep n t k->eN S k->dt (ia P tt du f dep n ke c t S k wl) e t' L k' M->Ta P dep n ke c t S k wl e t' L k' M:=by
 intro f
 induction f using ER with
 |_ f0 Te=>
 cases f0 with
 |zero=>intro dep n ke c t S k wl e t' L k' M _ _ _ _ h;exact(mO h).elim
 |succ f=>
  have ih:=Te f G
  intro dep n ke c t S k wl e t' L k' M hn q X j h
  cases c with
  |skip=>
   have O:dt (.de t S k wl) .de t S k wl:=rfl
   obtain⟨rfl,rfl,rfl,rfl,rfl⟩:=dt.inj O h
   exact⟨Left.refl X j,a7 _,λF o i g W a H=>wpIn_skip ⟨J,g,H⟩⟩
  |exit id=>
   have O:dt (.fS id t S k wl) (.fS id) t S k wl:=rfl
   obtain⟨rfl,rfl,rfl,rfl,rfl⟩:=dt.inj O h
   exact⟨Left.refl X j,a7 _,λF o i g W a H=>wpIn_exit ⟨J,g,H⟩⟩
  |ret=>
   have O:dt (.ret t S k wl) .ret t S k wl:=rfl
   obtain⟨rfl,rfl,rfl,rfl,rfl⟩:=dt.inj O h
   exact⟨Left.refl X j,a7 _,λF o i g W a H=>wpIn_ret ⟨J,g,H⟩⟩
  |seq x y=>
   have d:dt (match ia P tt du f dep n ke x t S k wl with| .de w A z C=>ia P tt du f dep n ke y w A z C|r=>r) e t' L k' M:=h
   rcases dt.get (r:=ia P tt du f dep n ke x t S k wl)with v|⟨e1,w,A,z,C,v⟩
   .rw[v]at d;exact(mO d).elim
   .have u:=ih _ _ _ _ _ _ _ _ _ _ _ _ _ hn q X j v;cases e1 with
    |de=>
     simp only[dt]at v
     rw[v]at d
     have g2:=ih _ _ _ _ _ _ _ _ _ _ _ _ _ hn (cj q u.1.le) u.1.dz u.1.eN d
     refine⟨u.1.trans g2.1,cj u.2.1 g2.2.1,λF o i g W a H=>wpIn_seq<|wpIn_mono (u.2.2 F o i.seq.1 g W a H) ?_⟩
     rintro e' a' W' ⟨rfl,D,E⟩
     exact g2.2.2 F o i.seq.2 D W' a' E
    |fS id=>
     simp only[dt]at v
     rw[v]at d
     obtain⟨rfl,rfl,rfl,rfl,rfl⟩:=dt.inj (e:= .fS id) J d
     refine⟨u.1,u.2.1,λF o i g W a H=>wpIn_seq<|wpIn_mono (u.2.2 F o i.seq.1 g W a H) ?_⟩
     rintro e' a' W' ⟨rfl,D,E⟩
     exact⟨J,D,E⟩
    |ret=>
     simp only[dt]at v
     rw[v]at d
     obtain⟨rfl,rfl,rfl,rfl,rfl⟩:=dt.inj (e:= .ret) J d
     refine⟨u.1,u.2.1,λF o i g W a H=>wpIn_seq<|wpIn_mono (u.2.2 F o i.seq.1 g W a H) ?_⟩
     rintro e' a' W' ⟨rfl,D,E⟩
     exact⟨J,D,E⟩
  |cond I x y=>
   have d:dt (match hZ dep n I with
    |some p=>(match jA t p with
     |some (.c<|.B b)=>(match b with
      |true=>ia P tt du f dep n ke x t S k wl
      |false=>ia P tt du f dep n ke y t S k wl)
     |_=> .no)
    |none=> .no) e t' L k' M:=h
   split at d
   .rename_i p hp;split at d
    .rename_i b hb;have Ir:=kz (m:=S.flatten) hp hb;split at d
     .have u:=ih _ _ _ _ _ _ _ _ _ _ _ _ _ hn q X j d;refine⟨u.1,u.2.1,λF o i g W a H=>?_⟩;have v:bG g (.c<|.B af) (a.eval I):=dr H _ I _ Ir<|eG _ I;exact wpIn_cond_split v (λ_=>u.2.2 F o i.cond.1 g W a H)<|λe=>uX
     .have u:=ih _ _ _ _ _ _ _ _ _ _ _ _ _ hn q X j d;refine⟨u.1,u.2.1,λF o i g W a H=>?_⟩;have v:bG g (.c<|.B ah) (a.eval I):=dr H _ I _ Ir<|eG _ I;exact wpIn_cond_split v (λe=>uX)<|λ_=>u.2.2 F o i.cond.2 g W a H
    .exact(mO d).elim
   .exact(mO d).elim
  |block id x=>
   have d:dt (match ia P tt du f dep n ke x t S k wl with
    | .fS R w A z C=>(match gR R id with|true=> .de w A z C|false=> .fS R w A z C)
    |r=>r) e t' L k' M:=h
   rcases dt.get (r:=ia P tt du f dep n ke x t S k wl)with v|⟨e1,w,A,z,C,v⟩
   .rw[v]at d;exact(mO d).elim
   .have u:=ih _ _ _ _ _ _ _ _ _ _ _ _ _ hn q X j v;cases e1 with
    |de=>
     simp only[dt]at v
     rw[v]at d
     obtain⟨rfl,rfl,rfl,rfl,rfl⟩:=dt.inj (e:= .de) J d
     refine⟨u.1,u.2.1,λF o i g W a H=>wpIn_block<|wpIn_mono (u.2.2 F o i.block g W a H) ?_⟩
     rintro e' a' W' ⟨rfl,D,E⟩
     exact⟨J,D,E⟩
    |fS R=>
     simp only[dt]at v
     rw[v]at d
     dsimp only at d
     split at d
     .rename_i T;have T:R=id:=kO T;subst T;obtain⟨rfl,rfl,rfl,rfl,rfl⟩:=dt.inj (e:= .de) J d;refine⟨u.1,u.2.1,λF o i g W a H=>wpIn_block<|wpIn_mono (u.2.2 F o i.block g W a H) ?_⟩;rintro e' a' W' ⟨rfl,D,E⟩;simp only[Ex.F8,Cx,b9];exact⟨oo,D,E⟩
     .rename_i T;have il:R≠id:=by intro e';subst e';rw[H8]at T;cases T
      obtain⟨rfl,rfl,rfl,rfl,rfl⟩:=dt.inj (e:= .fS R) J d;refine⟨u.1,u.2.1,λF o i g W a H=>wpIn_block<|wpIn_mono (u.2.2 F o i.block g W a H) ?_⟩;rintro e' a' W' ⟨rfl,D,E⟩;simp only[Ex.F8,Cx,il,bN];exact⟨oo,D,E⟩
    |ret=>
     simp only[dt]at v
     rw[v]at d
     obtain⟨rfl,rfl,rfl,rfl,rfl⟩:=dt.inj (e:= .ret) J d
     refine⟨u.1,u.2.1,λF o i g W a H=>wpIn_block<|wpIn_mono (u.2.2 F o i.block g W a H) ?_⟩
     rintro e' a' W' ⟨rfl,D,E⟩
     exact⟨J,D,E⟩
  |loop x=>
   have step:∀s U K N Q,dt (ia P tt du (s+1) dep n ke (.loop x) U K N Q) e t' L k' M->dt (match ia P tt du s dep n ke x U K N Q with| .de w A z C=>ia P tt du s dep n ke (.loop x) w A z C|r=>r) e t' L k' M:=λ_ _ _ _ _ h=>h
   have amR:∀s,s<=f+1->∀U K N Q,ke<=N->dz dep n U N->eN K N->dt (ia P tt du s dep n ke (.loop x) U K N Q) e t' L k' M->Left ke dep n U K N Q t' L k' M:=by
    intro s;induction s with
    |zero=>intro _ U K N Q _ _ _ O;exact(mO O).elim
    |succ s ihf=>
     intro hf U K N Q Z Nq Nr O
     have d:=step s U K N Q O
     rcases dt.get (r:=ia P tt du s dep n ke x U K N Q)with v|⟨e1,w,A,z,C,v⟩
     .rw[v]at d;exact(mO d).elim
     .have u:=Te s G _ _ _ _ _ _ _ _ _ _ _ _ _ hn Z Nq Nr v;cases e1 with
      |de=>
       simp only[dt]at v
       rw[v]at d
       exact u.1.trans<|ihf G w A z C (cj Z u.1.le) u.1.dz u.1.eN d
      |fS id=>
       simp only[dt]at v
       rw[v]at d
       obtain⟨rfl,rfl,rfl,rfl,rfl⟩:=dt.inj (e:= .fS id) J d
       exact u.1
      |ret=>
       simp only[dt]at v
       rw[v]at d
       obtain⟨rfl,rfl,rfl,rfl,rfl⟩:=dt.inj (e:= .ret) J d
       exact u.1
   have hL:=amR (f+1) (a7 _) t S k wl q X j h
   refine⟨hL,hL.le,λF o i g W a H=>?_⟩
   refine abK (λ(y:Y×(Tr×Ms)×Y×V Y) a W=>y.1<=f+1/\ke<=y.2.2.1/\dz dep n y.2.1.1 y.2.2.1/\eN y.2.1.2 y.2.2.1/\dt (ia P tt du y.1 dep n ke (.loop x) y.2.1.1 y.2.1.2 y.2.2.1 y.2.2.2) e t' L k' M/\∃g,bw F (·<y.2.2.1) (bl dep n y.2.1.1 y.2.1.2.flatten).kn g W a) (λy=>y.1) (f+1,(t,S),k,wl) ⟨a7 _,q,X,j,h,g,H⟩ ?_
   rintro⟨s,⟨U,K⟩,N,Q⟩ a W ⟨hf,Z,Nq,Nr,O,g,H⟩
   simp only at hf Z Nq Nr O H⊢
   cases s with
   |zero=>exact(mO O).elim
   |succ s=>
    have d:=step s U K N Q O
    rcases dt.get (r:=ia P tt du s dep n ke x U K N Q)with v|⟨e1,w,A,z,C,v⟩
    .rw[v]at d;exact(mO d).elim
    .have u:=Te s G _ _ _ _ _ _ _ _ _ _ _ _ _ hn Z Nq Nr v;refine wpIn_mono (u.2.2 F o i.loop g W a H) ?_;rintro e' a' W' ⟨rfl,D,E⟩;cases e1 with
     |de=>
      simp only[dt]at v
      rw[v]at d
      exact⟨(s,(w,A),z,C),⟨by simp only;omega,cj Z u.1.le,u.1.dz,u.1.eN,d,D,E⟩,ay⟩
     |fS id=>
      simp only[dt]at v
      rw[v]at d
      obtain⟨rfl,rfl,rfl,rfl,rfl⟩:=dt.inj (e:= .fS id) J d
      exact⟨J,D,E⟩
     |ret=>
      simp only[dt]at v
      rw[v]at d
      obtain⟨rfl,rfl,rfl,rfl,rfl⟩:=dt.inj (e:= .ret) J d
      exact⟨J,D,E⟩
  |region id ops draw=>
   have om:uZ P (sd P tt du<|ia P tt du f):=Td cp yZ ih
   have d:dt (match M8 dep n ops.toList draw with
    |some (gs,none)=>(match uS (sd P tt du<|ia P tt du f) tt n ke gs t S k wl with
     | .ok w A z C _=> .de w A z C
     | .no=> .no)
    |some (gs,ad ps)=>(match w8 (sd P tt du<|ia P tt du f) tt n ke gs t S k wl []with
     | .ok w A z C fs=>(match Ee fs.reverse ps with
      |true=> .de w A z C
      |false=> .no)
     | .no=> .no)
    |none=> .no) e t' L k' M:=h
   split at d
   .rename_i gs hc;split at d
    .rename_i w A z C ft hrt;obtain⟨rfl,rfl,rfl,rfl,rfl⟩:=dt.inj (e:= .de) J d;let ⟨fs',fA⟩:=aby hrt [];exact abL jV cp om hn hc q X j fA (λl hl=>by cases hl) id
    .exact(mO d).elim
   .rename_i gs ps hc;split at d
    .rename_i w A z C fs fA;split at d
     .rename_i hpk;obtain⟨rfl,rfl,rfl,rfl,rfl⟩:=dt.inj (e:= .de) J d;exact abL jV cp om hn hc q X j fA (λl hl=>by cases hl;exact hpk) id
     .exact(mO d).elim
    .exact(mO d).elim
   .exact(mO d).elim
  |rangeFunc _ _ _ _=>exact(mO h).elim
  |scope _=>exact(mO h).elim
  |label _=>exact(mO h).elim
  |goto _=>exact(mO h).elim
  |refuse _=>exact(mO h).elim
end
def HN(a:Y)(c:FH)(W:cD):FH:=λb o=>if b<a then c b o else W.cell? ⟨b,o,none⟩
section
variable{P:bZ}{tt:TT}
def Tf{f}{vs}{r r'}{A}{k'}(p:CX P f vs [] 0 r A k')(hm:cY vs=[])(hr:r'.ak=[])(ha:Bj (λc=>o c A) r r'=af):al P f vs r':=by
 refine⟨p.call,hr,?_⟩;intro H W B C g;have F:=xL g;have R:bw {w0:=W,H0:=H,n:=Z vs} (·<0) (St.kn ⟨dv 0 vs,[],0,[]⟩) ⟨H,jv⟩ W (m9 B):=by
  refine⟨by simp[m9,F],J,?_,?_,?_,?_,?_,C,⟨J,J,J,a7 _,λ_ _ _=>rfl⟩,cK.refl _,λ_ _ _ _=>rfl,λ_ p=>absurd p<|CF _⟩
  .intro t v I;simp only[St.kn,cL]at I;let ⟨x,l,he⟩:=I;cases he;let ⟨_,u,hu,hr,_⟩:=nL vs B 0 g t v l;have q:B[t]? =ad u:=xM;simp only[m9,nI,tW,q,qe];exact hr
  .intro c b i;simp[St.kn,o]at i
  .intro c T b b' N i;simp[St.kn,o]at i
  .intro w x l c z;cases w with
   |m j=>simp[St.kn,o]at l
   |s t=>
    simp only[St.kn,cL]at l
    let ⟨y,U,he⟩:=l
    subst he
    let ⟨_,_,_,_,Y⟩:=nL vs B 0 g t y U
    have:=Y c z
    rw[hm]at this
    cases this
  .intro c x l;simp[St.kn,o]at l
 refine(p.spec _ _ W B J F R).mono ?_;rintro e X ⟨v,K,rfl,d⟩;have L:∀b a,b<W.heap.size->K.H b a=H b a:=λb a i=>d.fresh b a i<|λp=>p
 have O:uW (HN W.heap.size H X) K X (λc=>o c A):=by
  refine⟨?_,?_⟩
  .intro b a u hu;unfold HN;split
   .rename_i i;rw[<-L b a i];exact hu
   .exact d.sub b a u hu
  .intro c E D hl;have l:∃b,∃vs rest:V a4,cy (K.γ c)=ad b/\X.heap[b]? =ad (.cells (vs++rest).toArray E (0,0))/\bc K D vs/\W.heap.size<=b:=by
    rcases hl with⟨sz,hl⟩|hl
    .let ⟨b,ws,rest,M,Q,S,k,_⟩:=d.c8 c (.box E sz D) zY;exact⟨b,ws,rest,M,Q,S,by rcases k with k|k;exact k;exact k.elim⟩
    .let ⟨b,ws,rest,M,Q,S,k,_⟩:=d.c8 c (.fz E D) zY;exact⟨b,ws,rest,M,Q,S,by rcases k with k|k;exact k;exact k.elim⟩
   let ⟨b,ws,rest,M,Q,S,G⟩:=l;exact⟨b,ws,rest,M,λa=>by simp only[HN,Nat.not_lt.2 G,bN],Q,S⟩
 have G:=d.eC 0 r (by simp[St.kn,o]);have h2:bG K r v:=by simpa[m9]using G
 refine⟨v,HN W.heap.size H X,J,abd O ha h2,λb a u hu=>O.le b a u<|d.le b a u hu,λb a i=>by simp[HN,i],?_,⟨d.below.os,d.below.tape,d.below.output,d.below.size,λN hk=>d.below.block N hk<|λp=>p⟩⟩;intro b a u hu;unfold HN at hu;split at hu
 .rename_i i;rw[<-L b a i]at hu;exact d.sub b a u hu
 .exact hu
def abO(a:AV):Cr->Bool
 | .ok r ms _ _=>Bj (λc=>o c ms.flatten) r a
 |_=>ah
def amV{a:jB->V AV->Ms->aw (V AV×AV)}(l:P.follows .mixedOrders=af)(d:cd P tt=af)(c:∀f vs p g r,a f vs p=ad (g,r)->al P f g r) fuel{f}{vs}{m}
  (i:abO m (sd P tt a (ia P tt a fuel) f vs [] 0)=af) (hm:cY vs=[]) (t:m.ak=[]):al P f vs m:=by
 cases hx:sd P tt a (ia P tt a fuel) f vs [] 0 with
 |ok r p k wl=>
  rw[hx]at i
  have n:=(Td d c<|Es l d c fuel).ok hx (λu b v=>by simp[bu]at v)<|λu eD=>B9
  exact Tf n.1 hm t i
 |_=>rw[hx]at i;cases i
end
def eP.re(F:eP)(W:cD)(g:Gh)(k:Y):eP:={F with w0:=W,H0:=g.H,own:=λb=>F.N b/\∀o:Obj,W.heap[b]? =ad o->o.isCells=af,k0:=k,γ0:=g.γ}
def aN.isM:aN->Bool
 | .mp _ _ _=>af
 | .it _ _ _=>af
 |_=>ah
def ik.reM{t u:Y->Prop}{g}{W}{B}{a}(v:∀(x:Y)(vs:Array a4)(l:TypeId)(p:Y×Y),W.heap[x]? =ad (.cells vs l p)->t x->u x)(F:∀(x:Y),a.isM=af->t x->u x)(i:ik t g W B a):ik u g W B a:=by
 cases a with
 |box l sz cs=>
  let ⟨a,vs,rest,e,hh,k,c,d⟩:=i
  exact⟨a,vs,rest,e,hh,k,v _ _ _ _ hh c,d⟩
 |vec l T xs=>
  rcases i with i|⟨a,cap,vs,e,hh,H,h2,A,K,c,d⟩
  .exact .inl i
  .exact .inr ⟨a,cap,vs,e,hh,H,h2,A,K,v _ _ _ _ hh c,d⟩
 |jG f first C=>exact i
 |fz l cs=>
  let ⟨a,vs,rest,e,hh,k,c,d⟩:=i
  exact⟨a,vs,rest,e,hh,k,v _ _ _ _ hh c,d⟩
 |mp M P xs=>
  let ⟨r,es,e,hh,k,c,d⟩:=i
  exact⟨r,es,e,hh,k,F _ J c,d⟩
 |it m n seen=>
  let ⟨r,a,e,L,hh,c,d⟩:=i
  exact⟨r,a,e,L,hh,F _ J c,d⟩
def Tg(a:Kn):Prop:=∀c b,b.isM=af->a (.m c)≠ad (.b b)
section
variable{F:eP}{k k':Y}{σ σ':Kn}{g g':Gh}{W W':cD}{a a':Act}
def bw.re(c:bw F (·<k) σ g W a)(d:Tg σ):bw (F.re W g k) (·<k) σ g W a:=by refine⟨c.size,c.defers,c.eC,λf b l=>(c.c8 f b l).reM ?_<|λ_ m=>(d f b m l).elim,c.inj,c.ak,c.dO,c.sub,⟨J,J,J,a7 _,λ_ _ _=>rfl⟩,cK.refl _,λ_ _ _ _=>rfl,λf i=>⟨i,J⟩⟩;intro x vs E p n r;refine .inr ⟨r,λo ho=>?_⟩;rw[n]at ho;cases ho;rfl
def bw.un(d:bw F (·<k) σ g W a)(c:bw (F.re W g k) (·<k') σ' g' W' a'):
  bw F (·<k') σ' g' W' a'/\KeepsOthers W W'/\fY (·<k) g g':=by
 refine⟨⟨c.size,c.defers,c.eC,λn b u=>(c.c8 n b u).reM ?_ ?_,c.inj,c.ak,c.dO,c.sub,?_,d.le.trans c.le,?_,?_⟩,?_,c.le,λn m=>(c.gW n m).2⟩
 .intro x vs E p B f;rcases f with f|f
  .exact .inl<|cj d.below.size f
  .exact f.1
 .intro x _ f;rcases f with f|f
  .exact .inl<|cj d.below.size f
  .exact f.1
 .refine⟨c.below.os.trans d.below.os,c.below.tape.trans d.below.tape,c.below.output.trans d.below.output,cj d.below.size c.below.size,λj r i=>?_⟩;rw[<-d.below.block j r i];refine c.below.block j (iz r d.below.size)<|λt=>?_;rcases t.1 with l|l
  .omega
  .exact i l
 .intro b o u i;rw[<-d.fresh b o u i];refine c.fresh b o (iz u d.below.size)<|λt=>?_;rcases t.1 with l|l
  .omega
  .exact i l
 .intro n m;have l:=d.gW n m;have v:=c.gW n l.1;exact⟨v.1,v.2.trans l.2⟩
 .refine⟨c.below.size,λj o r A=>?_⟩;rw[<-r];refine c.below.block j (fQ.1 r).1<|λt=>?_;rw[t.2 o r]at A;cases A
def Th:Obj->Bool
 | .cells .. =>af
 | .map .. =>af
 | .mapIter .. =>af
 |_=>ah
def amW{c:Obj}(d:c.isCells=af):Th c=af:=by cases c<;>first|rfl|cases d
structure WX(B:Y)(W W':cD):Prop where
 os:W'.os=W.os
 tape:W'.tape=W.tape
 output:W'.output=W.output
 size:W.heap.size<=W'.heap.size
 same:∀(k:Y)(o:Obj),W.heap[k]? =ad o->Th o=af\/k<B->W'.heap[k]? =ad o
def bw.wx{i:Y->Prop}(c:bw F i σ g W a)(l:WX F.w0.heap.size W W'):bw F i σ g W' a:=by
 refine⟨c.size,c.defers,c.eC,λL b M=>?_,c.inj,c.ak,c.dO,?_,⟨l.os.trans c.below.os,l.tape.trans c.below.tape,l.output.trans c.below.output,cj c.below.size l.size,λj x A=>?_⟩,c.le,c.fresh,c.gW⟩
 .have d:=c.c8 L b M;cases b with
  |box E sz cs=>
   let ⟨b,vs,rest,e,hh,d,p,t⟩:=d
   exact⟨b,vs,rest,e,l.same _ _ hh<|.inl J,d,p,t⟩
  |vec E T xs=>
   rcases d with c|⟨b,cap,vs,e,hh,P,h2,B,Q,p,t⟩
   .exact .inl c
   .exact .inr ⟨b,cap,vs,e,l.same _ _ hh<|.inl J,P,h2,B,Q,p,t⟩
  |jG f first C=>exact d
  |fz E cs=>
   let ⟨b,vs,rest,e,hh,d,p,t⟩:=d
   exact⟨b,vs,rest,e,l.same _ _ hh<|.inl J,d,p,t⟩
  |mp w y xs=>
   let ⟨r,es,e,hh,d,p,t⟩:=d
   exact⟨r,es,e,l.same _ _ hh<|.inl J,d,p,t⟩
  |it m n seen=>
   let ⟨r,b,e,S,hh,p,t⟩:=d
   exact⟨r,b,e,S,l.same _ _ hh<|.inl J,p,t⟩
 .intro b o v X;have H:=c.sub b o v X;let ⟨z,K,q⟩:=cells_of_cell H;rw[<-H];exact World.cell?_of_block<|(l.same _ _ K<|.inl<|amW q).trans K.symm
 .have s:j<W.heap.size:=iz x c.below.size;have u:W.heap[j]? =ad W.heap[j]:=O8 s;rw[l.same j _ u (.inr x),<-c.below.block j x A,u]
def WX.refl B W:WX B W W:=⟨J,J,J,a7 _,λ_ _ h _=>h⟩
def WX.trans{B}{A C f}(c:WX B A C)(d:WX B C f):WX B A f:=
 ⟨d.os.trans c.os,d.tape.trans c.tape,d.output.trans c.output,cj c.size d.size,λk o l i=>d.same k o (c.same k o l i) i⟩
def WX.alloc B W(c:Obj):WX B W (W.alloc c):=
 ⟨J,J,J,ay,λk _ d _=>(Below.heap_alloc W c k (fQ.1 d).1).trans d⟩
def WX.putObj{B}{W}{l}{i:Obj}(m:Obj)(n:W.heap[l]? =ad i)(p:Th i=ah)(r:B<=l):WX B W (W.putObj l m):=
 ⟨J,J,J,ay,λk t d c=>by
  have f:k≠l:=by
   intro e;subst e;rw[n]at d;cases d;rcases c with c|c
   .rw[p]at c;cases c
   .omega
  rw[Ns f];exact d⟩
def Gh.new(g:Gh)(k:Y)(u:a4):Gh:=⟨g.H,λc=>if c=k then u else g.γ c⟩
def bw.amX(c:bw F (·<k) σ g W a) u:bw F (·<k+1) σ (g.new k u) W a:=by
 have i:=c.step (chg:=λ_=>False) (g':=g.new k u) (W':=W) (a':=a) ⟨⟨cK.refl _,λf d=>by have:f≠k:=Nat.ne_of_lt d;simp[Gh.new,this]⟩,λ_ _ _=>rfl,c.sub,a7 _,λ_ _ _=>rfl,J,J,J⟩ [] k (Nat.lt_irrefl k) J c.defers (λ_ _=>rfl) (λ_ c=>c.elim) (λ_ _ c=>by simp[aE]at c) (λ_ _ c=>by simp[aE]at c) (λ_ _ c=>by simp[aE]at c) (λ_ _ c=>by simp[aE]at c);refine i.weaken ?_;rintro f (d|rfl)
 .exact Nk d
 .exact dL _
end
section
variable{F:eP}{k k':Y}{g g':Gh}{W W':cD}{a a':Act}{dep n abR n':Y}{t t':Tr}{m m':Mem}{ds Nt:V Is}{rd Ti:aw Y}
def bw.swap{A}(l:bw {F with n:=A,ds:=ds,rd:=rd} (·<k) (bl dep n t m).kn g W a)(d:bw {F with n:=n',ds:=Nt,rd:=Ti} (·<k') (bl abR n' t' m').kn g' W' a')(H:k<=k')(L:fY (·<k) g g'):
  bw {F with n:=A,ds:=ds,rd:=rd} (·<k') (bl dep n t m').kn g' W' a:=by
 have p:∀c x,(bl dep n t m').kn (.m c)=ad x->(bl abR n' t' m').kn (.m c)=ad x:=λc x i=>i
 refine⟨l.size,l.defers,λs v B=>?_,λc b C=>d.c8 c b<|p _ _ C,λc r b K M P Q S X=>d.inj c r b K M (p _ _ P) (p _ _ Q) S X,λu x i c f=>?_,λc x i=>d.dO c x<|p _ _ i,d.sub,d.below,d.le,d.fresh,d.gW⟩
 .exact bG.mono L (λc f=>l.ak (.s s) (.v v) B c f)<|l.eC s v B
 .cases u with
  |s j=>exact iz (l.ak (.s j) x i c f) H
  |m j=>exact d.ak (.m j) x (p _ _ i) c f
def bw.defer{c:Y->Prop}{f}{i}(d:bw {F with n:=i,ds:=ds,rd:=rd} c f g W a) Nt Ti:bw {F with n:=i,ds:=Nt,rd:=Ti} c f g W {a with defers:=Nt}:=
 ⟨d.size,J,d.eC,d.c8,d.inj,d.ak,d.dO,d.sub,d.below,d.le,d.fresh,d.gW⟩
def bw.abS{p}(c:bw {F with n:=p,ds:=ds,rd:=rd} (·<k) (bl dep n t m).kn g W a)(S:n<=4^dep)(A:p=n){d}(Q:d<n){v}{u}(hv:bG g v u)(B:∀i∈v.ak,i<k):
  bw {F with n:=p,ds:=ds,rd:=rd} (·<k) (bl dep n (jn (cP dep d) v t) m).kn g W {a with tmps:=a.tmps.setIfInBounds d u}:=by
 subst A
 have C:=D7 dep p t m d v S Q
 have r:∀s x,(bl dep p (jn (cP dep d) v t) m).kn (.s s)=ad (.v x)->(s=d/\x=v)\/(s≠d/\(bl dep p t m).kn (.s s)=ad (.v x)):=by
  intro s x f;rw[C]at f;by_cases e:s=d
  .subst e;simp[bH,aE]at f;exact .inl ⟨J,f.symm⟩
  .have H:d≠s:=λc=>e c.symm
   simp[bH,aE,H]at f;exact .inr ⟨e,f⟩
 have X:∀i,(bl dep p (jn (cP dep d) v t) m).kn (.m i)=(bl dep p t m).kn (.m i):=λ_=>rfl
 refine⟨by simpa using c.size,c.defers,λs x o=>?_,λi b q=>c.c8 i b q,λi K b w z D E G I=>c.inj i K b w z D E G I,λL x f i l=>?_,λi x f=>c.dO i x f,c.sub,c.below,c.le,c.fresh,c.gW⟩
 .rcases r s x o with⟨rfl,rfl⟩|⟨M,f⟩
  .have P:s<a.tmps.size:=by rw[c.size];exact Q
   simpa[P]using hv
  .have H:d≠s:=λc=>M c.symm
   have:=c.eC s x f;simpa[k7 H]using this
 .cases L with
  |m j=>exact c.ak (.m j) x f i l
  |s j=>
   cases x with
   |b _=>simp[bl,St.kn]at f
   |v y=>
    rcases r j y f with⟨_,rfl⟩|⟨_,f⟩
    .exact B i l
    .exact c.ak (.s j) _ f i l
end
section
variable{P:bZ}{F:eP}{n:Y}{c:gA}{st st':St}{k k':Y}{e:Ex}{g:Gh}{W:cD}{a:Act}
def F9.v5(t:F9 P n c st k e st' k')(u:F.n=n)(f:mB F.rd c)(m:bw F (·<k) st.kn g W a)(i:Tg st.kn):
  c.wpIn (fw F.rd) 0 P (λp r l=>p=e.F8/\∃d,bw F (·<k') st'.kn d l r/\KeepsOthers W l/\fY (·<k) g d) a W:=by
 refine wpIn_mono (t.2 (F.re W g k) u f g W a<|m.re i) ?_
 rintro p r l ⟨rfl,d,v⟩
 exact⟨J,d,m.un v⟩
end
inductive ic(S:Type) where
 |no
 |de (s:S)
 |fS (a:Y) (s:S)
 |ret (s:S)
def ic.post{S:Type}(f:S->Act->cD->Prop):ic S->Exit->Act->cD->Prop
 | .de c,d,a,W=>d= .normal/\f c a W
 | .fS id c,d,a,W=>d= .exit id/\f c a W
 | .ret c,d,a,W=>d= .ret/\f c a W
 | .no,_,_,_=>False
section
variable{S:Type}(leaf:gA->S->ic S)(ev:dQ->S->aw Bool)
noncomputable def Tj(a:gA->S->ic S)(x c:gA)(d:S):ic S:=match a x d with
 | .de s1=>a c s1
 |r=>r
noncomputable def Tk(d:gA->S->ic S)(c:dQ)(x f:gA)(a:S):ic S:=match ev c a with
 |some b=>(match b with
  |true=>d x a
  |false=>d f a)
 |none=> .no
noncomputable def Tl(c:gA->S->ic S)(d:Y)(x:gA)(f:S):ic S:=match c x f with
 | .fS a s1=>(match gR a d with
  |true=> .de s1
  |false=> .fS a s1)
 |r=>r
noncomputable def Tm(a:gA->S->ic S)(x:gA)(c:S):ic S:=match a x c with
 | .de s1=>a (.loop x) s1
 |r=>r
noncomputable def amY(a:gA->S->ic S):gA->S->ic S
 | .skip=> .de
 | .label _=> .de
 | .exit id=> .fS id
 | .ret=> .ret
 | .seq x d=>Tj a x d
 | .cond c x d=>Tk ev a c x d
 | .block id x=>Tl a id x
 | .scope x=>a x
 | .loop x=>Tm a x
 |c=>leaf c
noncomputable def gen(a:Y):gA->S->ic S:=Nat.rec (motive:=λ_=>gA->S->ic S) (λ_ _=> .no) (λ_ c=>amY leaf ev c) a
end
section
variable{P:bZ}{Fe:Fence}{n:Y}{Q:Exit->Act->cD->Prop}{a:Act}{w:cD}
def amZ{c}(B:c.wpIn Fe n P (Exit.noGoto Q) a w):(Code.scope c).wpIn Fe n P Q a w:=by
 intro b k i t u v;have m:step P (lone (b.atR a<|.code (.scope c)::k) i w)= .next (lone (b.atR a<|.code c:: .inScope c::k) i w):=step_lone_go (by simp[Go.stepG,am0,Frame.atR])
 have s2:∀a w,step P (lone (b.atR a<|.inScope c::k) i w)= .next (lone (b.atR a k) i w):=λa w=>step_lone_go (by simp[Go.stepG,am0,Frame.atR])
 have p:(lone (b.atR a<|.code (.scope c)::k) i w).fenced P Fe:=fenced_calm u v J;let ⟨e,f,g,r,d⟩:=B b (.inScope c::k) i t u v;cases e with
 |normal=>exact⟨.normal,f,g,r,.head p m<|StepsIn.trans d<|.one (fenced_calm u v J)<|s2 _ _⟩
 |exit id=>
  refine⟨.exit id,f,g,r,λC x=> .head p m (d.1 C<|by simp[exitTo,x]),λA x=>?_⟩
  let ⟨k₁,F,h2⟩:=d.2 A (by simp[exitTo,x])
  exact⟨k₁,F,.head p m h2⟩
 |goto l=>exact r.elim
 |ret=>exact⟨_,f,g,r,.of_steps (.one p m) d⟩
 |panic ch=>exact⟨_,f,g,r,.of_steps (.one p m) d⟩
 |outgrown=>exact⟨_,f,g,r,.of_steps (.one p m) d⟩
end
section
variable{P:bZ}{Fe:Fence}{S:Type}{leaf:gA->S->ic S}{ev:dQ->S->aw Bool}{I:S->Act->cD->Prop}
def abT(k:∀c d r,leaf c d=r->r≠ .no->∀a W,I d a W->c.wpIn Fe 0 P (r.post I) a W)
  (Q:∀c d F,ev c d=ad F->∀a W,I d a W->a.eval c= .bool F):
  ∀(l:Y)(c:gA)(d:S)(r:ic S),gen leaf ev l c d=r->r≠ .no->∀a W,I d a W->c.wpIn Fe 0 P (r.post I) a W:=by
 intro l
 induction l using ER with
 |_ l H=>
 cases l with
 |zero=>intro c d r h m;exact absurd h.symm m
 |succ f=>
  have t:=H f G
  intro c d r h m a W g
  cases c with
  |skip=>have h:ic.de d=r:=h;subst h;exact wpIn_skip ⟨J,g⟩
  |label _=>have h:ic.de d=r:=h;subst h;exact wpIn_label ⟨J,g⟩
  |exit id=>have h:ic.fS id d=r:=h;subst h;exact wpIn_exit ⟨J,g⟩
  |ret=>have h:ic.ret d=r:=h;subst h;exact wpIn_ret ⟨J,g⟩
  |seq x y=>
   have h:Tj (gen leaf ev f) x y d=r:=h
   unfold Tj at h
   refine wpIn_seq ?_
   cases hx:gen leaf ev f x d with
   |no=>rw[hx]at h;exact absurd h.symm m
   |de s1=>
    rw[hx]at h
    refine wpIn_mono (t x d _ hx ay a W g) ?_
    rintro e u v ⟨rfl,i⟩
    exact t y s1 r h m u v i
   |fS id s1=>
    rw[hx]at h
    subst h
    refine wpIn_mono (t x d _ hx ay a W g) ?_
    rintro e u v ⟨rfl,i⟩
    exact⟨J,i⟩
   |ret s1=>
    rw[hx]at h
    subst h
    refine wpIn_mono (t x d _ hx ay a W g) ?_
    rintro e u v ⟨rfl,i⟩
    exact⟨J,i⟩
  |cond A x y=>
   have h:Tk ev (gen leaf ev f) A x y d=r:=h
   unfold Tk at h
   cases hc:ev A d with
   |none=>rw[hc]at h;exact absurd h.symm m
   |some F=>
    rw[hc]at h
    have j:=Q A d F hc a W g
    cases F with
    |true=>exact wpIn_cond_split j (λ_=>t x d r h m a W g)<|λe=>uX
    |false=>exact wpIn_cond_split j (λe=>uX)<|λ_=>t y d r h m a W g
  |block id x=>
   have h:Tl (gen leaf ev f) id x d=r:=h
   unfold Tl at h
   refine wpIn_block ?_
   cases hx:gen leaf ev f x d with
   |no=>rw[hx]at h;exact absurd h.symm m
   |de s1=>
    rw[hx]at h
    subst h
    refine wpIn_mono (t x d _ hx ay a W g) ?_
    rintro e u v ⟨rfl,i⟩
    exact⟨J,i⟩
   |fS K s1=>
    rw[hx]at h
    dsimp only at h
    refine wpIn_mono (t x d _ hx ay a W g) ?_
    rintro e u v ⟨rfl,i⟩
    cases p:gR K id with
    |true=>
     rw[p]at h
     subst h
     have:=kO p
     subst this
     simp only[Cx,b9]
     exact⟨J,i⟩
    |false=>
     rw[p]at h
     subst h
     have X:K≠id:=by intro o;subst o;rw[H8]at p;cases p
     simp only[Cx,X,bN]
     exact⟨J,i⟩
   |ret s1=>
    rw[hx]at h
    subst h
    refine wpIn_mono (t x d _ hx ay a W g) ?_
    rintro e u v ⟨rfl,i⟩
    exact⟨J,i⟩
  |scope x=>
   have h:gen leaf ev f x d=r:=h
   refine amZ<|wpIn_mono (t x d r h m a W g) ?_
   intro e u v M
   cases r with
   |no=>exact M.elim
   |de s1=>obtain⟨rfl,i⟩:=M;exact⟨J,i⟩
   |fS id s1=>obtain⟨rfl,i⟩:=M;exact⟨J,i⟩
   |ret s1=>obtain⟨rfl,i⟩:=M;exact⟨J,i⟩
  |loop x=>
   refine abK (λ(y:Y×S) a W=>y.1<=f+1/\gen leaf ev y.1 (.loop x) y.2=r/\I y.2 a W) (λy=>y.1) (f+1,d) ⟨a7 _,h,g⟩ ?_
   rintro⟨C,L⟩ a W ⟨q,n,g⟩
   simp only at q n g⊢
   cases C with
   |zero=>exact absurd n.symm m
   |succ C=>
    have n:Tm (gen leaf ev C) x L=r:=n
    unfold Tm at n
    have B:=H C G
    cases hx:gen leaf ev C x L with
    |no=>rw[hx]at n;exact absurd n.symm m
    |de s1=>
     rw[hx]at n
     refine wpIn_mono (B x L _ hx ay a W g) ?_
     rintro e u v ⟨rfl,i⟩
     exact⟨(C,s1),⟨by simp only;omega,n,i⟩,ay⟩
    |fS id s1=>
     rw[hx]at n
     subst n
     refine wpIn_mono (B x L _ hx ay a W g) ?_
     rintro e u v ⟨rfl,i⟩
     exact⟨J,i⟩
    |ret s1=>
     rw[hx]at n
     subst n
     refine wpIn_mono (B x L _ hx ay a W g) ?_
     rintro e u v ⟨rfl,i⟩
     exact⟨J,i⟩
  |region id ops draw=>exact k _ d r h m a W g
  |rangeFunc _ _ _ _=>exact k _ d r h m a W g
  |goto _=>exact k _ d r h m a W g
  |refuse _=>exact k _ d r h m a W g
end
section
variable{P:bZ}{tt:TT}{du:jB->V AV->Ms->aw (V AV×AV)}
def Tn(S:cd P tt=af){l:l6}(p:uZ P l){dep n:Y}(hn:n<=4^dep){ops:Array bh}:∀(os:V bh)(i:Y){gs:V GI}{t:Tr}{r:Ms}{k:Y}{H:V Y}{u:Tr}{c:Ms}{m:Y}{d:V Y}{f:Ft},
  uS l tt n 0 gs t r k H= .ok u c m d f->uT dep n ops.toList os=ad gs->(∀L aI,os[L]? =ad aI->ops[i+L]? =ad aI)->dz dep n t k->eN r k->
  k<=m/\dz dep n u m/\eN c m/\∀(F:eP),F.n=n->zy F.rd ops->∀(Q:Exit->Act->cD->Prop)(rest:V Y) g W a,bw F (·<k) (bl dep n t r.flatten).kn g W a->
   (∀g' W' a',bw F (·<m) (bl dep n u c.flatten).kn g' W' a'->wpOpsIn (fw F.rd) 0 P ops Q rest a' W')->wpOpsIn (fw F.rd) 0 P ops Q (abU i (Z os)++rest) a W
 |[],i,gs,t,r,k,H,u,c,m,d,f,M,hc,_,x,A=>by simp only[uT,ar]at hc;subst hc;have h':Rs.ok t r k H .n= .ok u c m d f:=M;simp only[Rs.ok.injEq]at h';obtain⟨rfl,rfl,rfl,rfl,rfl⟩:=h';exact⟨a7 _,x,A,λF X B Q rest g W a b e=>e g W a b⟩
 |aI::os,i,gs,t,r,k,H,u,c,m,d,f,M,hc,v,x,A=>by
  simp only[uT]at hc;split at hc
  .rename_i z K N q;cases hc;have O:uS l tt n 0 (z::K) t r k H=match uR l tt n 0 z t r k H with| .ok u c m d _=>uS l tt n 0 K u c m d| .no=> .no:=rfl
   rw[O]at M;split at M
   .rename_i t1 R k1 T f1 U;have ho:ops[i]? =ad aI:=by have:=v 0 aI J;simpa using this
    let ⟨⟨ks,⟨rd,wr,s,w,y,hle,_,_⟩,_,D⟩,_⟩:=abx S p (be _) hn ho N x A U;let ⟨E,I,h3,h4⟩:=Tn S p hn os (i+1) M q (λL o' hj=>by have:=v (L+1) o' sH;rwa[(G:i+(L+1)=i+1+L)]at this) D.dz D.eN;refine⟨cj hle E,I,h3,λF X B Q rest g W a b e=>?_⟩;rw[eB,Jg,mc,wpOpsIn_cons];refine OC (B i) ?_;refine s F X _ (·<k) _ g W a _ (λid E I=>G) b w<|λg' W' a' h'=>?_;rw[<-y]at h';exact h4 F X B Q rest g' W' a' (h'.weaken<|λid C=>by rcases C with C|C<;>omega) e
   .cases M
  .cases hc
noncomputable def oJ(dep:Y):V Y->V AV->Tr->Tr
 |p::ps,v::vs,t=>oJ dep ps vs<|jn (cP dep p) v t
 |_,_,t=>t
def q7:V Y->V a4->Array a4->Array a4
 |p::ps,u::us,a=>q7 ps us<|a.setIfInBounds p u
 |_,_,a=>a
def abV:∀(ps:V Y)(c:V a4)(a:Array a4),(ps.zip c).foldl (λd(t,a)=>d.setIfInBounds t a) a=q7 ps c a
 |[],c,a=>by simp[q7]
 |p::ps,[],a=>by simp[q7]
 |p::ps,u::c,a=>by simp only[List.zip_cons_cons,JB,q7];exact abV ps c<|a.setIfInBounds p u
def am1(ps:V Y)(d:V a4)(a:Array a4):(ps.toArray.zip d.toArray).foldl (λc(t,a)=>c.setIfInBounds t a) a=q7 ps d a:=by rw[List.zip_toArray,<-abV];simp
noncomputable def Nu(dep:Y)(t:Tr):V Y->aw (V AV)
 |[]=>ad []
 |x::xs=>match iY (cP dep x) t,Nu dep t xs with
  |some v,ad vs=>ad<|v::vs
  |_,_=>none
def dz.oJ{dep n k:Y}(f:n<=4^dep):∀{ps:V Y}{vs:V AV}{t:Tr},dz dep n t k->(∀p∈ps,p<n)->(∀c∈cY vs,c<k)->dz dep n (oJ dep ps vs t) k
 |[],_,_,d,_,_=>by simpa[El.oJ]using d
 |_::_,[],_,d,_,_=>by simpa[El.oJ]using d
 |p::ps,v::vs,t,d,hp,g=>dz.oJ f (ps:=ps) (vs:=vs) (d.set f (hp p ay)<|λc a=>g c<|eh _ a) (λi l=>hp i<|jT _ l)<|λc a=>g c<|fZ _ a
def bw.oJ{F:eP}{x dep n k:Y}{ds:V Is}{rd:aw Y}{m:Mem}{g:Gh}{W:cD}(A:n<=4^dep)(d:x=n):∀{ps:V Y}{vs:V AV}{us:V a4}{t:Tr}{a:Act},bw {F with n:=x,ds:=ds,rd:=rd} (·<k) (bl dep n t m).kn g W a->(∀p∈ps,p<n)->ff g vs us->(∀f∈cY vs,f<k)->
  bw {F with n:=x,ds:=ds,rd:=rd} (·<k) (bl dep n (oJ dep ps vs t) m).kn g W {a with tmps:=q7 ps us a.tmps}
 |[],_,_,_,_,i,_,_,_=>by simpa[El.oJ,q7]using i
 |_::_,[],us,_,_,i,_,l,_=>by have l:us=[]:=l;subst l;simpa[El.oJ,q7]using i
 |p::ps,v::vs,us,t,a,i,hp,l,B=>by obtain⟨u,r,rfl,C,H⟩:=l;exact bw.oJ A d (ps:=ps) (vs:=vs) (us:=r) (i.abS A d (hp p ay) C<|λf c=>B f<|eh _ c) (λq K=>hp q<|jT _ K) H<|λf c=>B f<|fZ _ c
def pV(fn:jB)(tmps:Array a4)(p:V Y)(a d:gA)(f:Y)(c:aw gA):Loop:=
 {state:=if c.isNone then .ready else .done,pending:=c,fn:=fn,tmps:=tmps,params:=⟨p⟩,assign:=a,body:=d,defers:=f}
structure SY where
 t:Tr
 ms:Ms
 k:Y
 pd:aw gA
noncomputable def Et(a:Ms):Bool:=a.all λm=>m.all λe=>match e.2 with
 | .mp _ _ _=>ah
 | .it _ _ _=>ah
 |_=>af
def abW{c:Type}{d:Y}{f:c}:∀{m:V (Y×c)},o d m=ad f->(d,f)∈m
 |[],a=>by cases a
 | (i,x)::m,a=>by
  simp only[o]at a;split at a
  .rename_i g;cases a;subst g;exact BU
  .exact jT _<|abW a
def Eu{a}(d:Et a=af) dep n t:Tg (bl dep n t a.flatten).kn:=by
 intro p y f e;rw[D5]at e;simp only[cL,Info.b.injEq]at e;obtain⟨b,g,rfl⟩:=e;have i:=abW g;obtain⟨m,k,l⟩:=List.mem_flatten.1 i;have c:=mq.1 (mq.1 d m k) _ l;cases b with
 |mp r u xs=>cases c
 |it m n seen=>cases c
 |_=>cases f
noncomputable def Ev(a:Ms)(r:Rc):Rc:=match Et a with
 |true=>r
 |false=> .no
def Ew{d}{r c:Rc}(a:Ev d r=c)(f:c≠ .no):Et d=af/\r=c:=by
 unfold Ev at a;split at a
 .rename_i e;exact⟨e,a⟩
 .exact absurd a.symm f
noncomputable def Nv(a:Ms)(r:Rs):Rs:=match Et a with
 |true=>r
 |false=> .no
def abX{d}{r c:Rs}(a:Nv d r=c)(f:c≠ .no):Et d=af/\r=c:=by
 unfold Nv at a;split at a
 .rename_i e;exact⟨e,a⟩
 .exact absurd a.symm f
noncomputable def Nw(P:bZ)(tt:TT)(du:jB->V AV->Ms->aw (V AV×AV))(i a l:Y)(n:Tr)(p:V Y)(g r:gA)(v:V AV)(m:Ms)(k:Y):aw (aw gA×Ms×Y):=
 match Ev m (ia P tt du i a l 0 g (oJ a p v n) m k [])with
 | .de t1 d t _=>(match Ev d (ia P tt du i a l 0 r t1 d t [])with
  | .de _ c f _=>ad (none,c,f)
  | .fS id _ c f _=>ad (ad<|.exit id,c,f)
  | .ret _ c f _=>ad (ad .ret,c,f)
  | .no=>none)
 |_=>none
def Nx:V dQ->aw (V Y)
 |[]=>ad []
 | .tmp x::r=>(match Nx r with
  |some l=>ad<|x::l
  |none=>none)
 |_::_=>none
def abY:∀{l:V dQ}{xs:V Y},Nx l=ad xs->l=xs.map abZ
 |[],xs,a=>by cases a;rfl
 | .tmp x::r,xs,a=>by
  simp only[Nx]at a;split at a
  .rename_i l c;cases a;simp[abY c]
  .cases a
 | .const _::_,_,a=>by cases a
 | .func _::_,_,a=>by cases a
 | .global _::_,_,a=>by cases a
def Ny(a:bh):aw (Y×Y×V Y):=match a.dst,a.op with
 |some d,.call ⟨.value<|.tmp j,⟨args⟩,_⟩=>(match Nx args with
  |some xs=>ad (d,j,xs)
  |none=>none)
 |_,_=>none
def It:V bh->Y->V bh->aw (Y×bh×(Y×Y×V Y))
 |_,_,[]=>none
 |all,i,a::os=>match Ny a with
  |some c=>ad (i,a,c)
  |none=>It all (i+1) os
noncomputable def gdY(dep n:Y)(a:V bh)(f:bh)(t:Tr):Bool:=match f.guard with
 |none=>af
 |some (j,want)=>(match nH a j with
  |some d=>(match dk d n,iY (cP dep d) t with
   |true,ad (.c<|.B b)=>b==want
   |_,_=>ah)
  |none=>ah)
noncomputable def ab1(P:bZ)(tt:TT)(du:jB->V AV->Ms->aw (V AV×AV))(u dep n A:Y)(F:Y)(l:V AV->Ms->Y->aw (aw gA×Ms×Y))(a:Array bh)(g:SY):ic SY:=
 match It a.toList 0 a.toList with
 |some (i,o,(d,j,x))=>(match uT dep n a.toList (h i a.toList),uT dep n a.toList (az (i+1) a.toList)with
  |some C,ad H=>(match Nv g.ms (uS (sd P tt du<|ia P tt du u) tt n 0 C g.t g.ms g.k [])with
   | .ok t1 m K _ _=>(match gdY dep n a.toList o t1&&dk d n&&dk j n&&x.all (λy=>dk y n)&&gR (Z x) F with
    |true=>(match iY (cP dep j) t1,Nu dep t1 x with
     |some (.c<|.X p),ad v=>(match gR p A with
      |true=>(match l v m K with
       |some (pd,f,L)=>(match Nv f (uS (sd P tt du<|ia P tt du u) tt n 0 H (jn (cP dep d) (.c<|.B pd.isNone) t1) f L [])with
        | .ok t3 r M _ _=> .de ⟨t3,r,M,pd⟩
        | .no=> .no)
       |none=> .no)
      |false=> .no)
     |_,_=> .no)
    |false=> .no)
   | .no=> .no)
  |_,_=> .no)
 |none=> .no
noncomputable def To(P:bZ)(tt:TT)(du:jB->V AV->Ms->aw (V AV×AV))(g dep n i:Y)(l:Y)(d:V AV->Ms->Y->aw (aw gA×Ms×Y))(c:gA)(a:SY):ic SY:=match c with
 | .region id ops draw=>(match Ev a.ms (ia P tt du g dep n 0 (.region id ops draw) a.t a.ms a.k [])with
  | .de m f p _=> .de ⟨m,f,p,a.pd⟩
  |_=>(match draw with
   |false=>(match a.pd with
    |none=>ab1 P tt du g dep n i l d ops a
    |some _=> .no)
   |true=> .no))
 |_=> .no
noncomputable def Tp(dep n:Y)(c:dQ)(a:SY):aw Bool:=match hZ dep n c with
 |some p=>(match jA a.t p with
  |some (.c<|.B b)=>ad b
  |_=>none)
 |none=>none
def IY(F:eP)(dep n d f:Y)(m:Tr)(r:Act)(i:V Is)(p l:Y)(rc:aw gA->Loop)(mk:V Y)(c:SY)(a:Act)(W:cD):Prop:=
 ∃g,dz dep n c.t c.k/\eN c.ms c.k/\dz d f m c.k/\bw {F with n:=n,ds:=[],rd:=none} (·<c.k) (bl dep n c.t c.ms.flatten).kn g W a/\
  bw {F with n:=f,ds:=i,rd:=none} (·<c.k) (bl d f m c.ms.flatten).kn g W r/\p<c.k/\g.γ p= .func (.yield l) #[] #[]/\W.heap[l]? =ad (.loop<|rc c.pd)/\∀D∈mk,W.heap[D]? =ad (.deferred<|ad [])
def ab2{all:V bh}:∀{g:V bh}{i a:Y}{d:bh}{f:Y×Y×V Y},It all i g=ad (a,d,f)->Ny d=ad f/\i<=a/\g[a-i]? =ad d
 |[],i,a,d,f,c=>by simp[It]at c
 |x::g,i,a,d,f,c=>by
  simp only[It]at c;split at c
  .rename_i n k;simp only[ar,bK]at c;obtain⟨rfl,rfl,rfl⟩:=c;exact⟨k,a7 _,ay⟩
  .let ⟨l,h2,m⟩:=ab2 c;refine⟨l,G,?_⟩;rw[(G:a-i=(a-(i+1))+1)];simpa using m
def am2{f}{d k}{x}(a:Ny f=ad (d,k,x)):f.dst=ad d/\∃c,f.op= .call ⟨.value<|.tmp k,⟨x.map abZ⟩,c⟩:=by
 unfold Ny at a;split at a
 .rename_i m n args c l g;split at a
  .rename_i xs i;simp only[ar,bK]at a;obtain⟨rfl,rfl,rfl⟩:=a;exact⟨l,c,by rw[g,<-abY i]⟩
  .cases a
 .cases a
def Nz{dep n}{t:Tr}{m:Mem}{a}{v}(c:a<n)(d:iY (cP dep a) t=ad v):(bl dep n t m).kn (.s a)=ad (.v v):=by rw[D5];simp[c,d]
variable{F:eP}{dep n nX n0:Y}{t0:Tr}{a0:Act}{ds0:V Is}{kt l:Y}{fnid:jB}{p:V Y}{D:Y}{nw bd:gA}{mk:V Y}
def am3(jV:P.follows .mixedOrders=af)(cp:cd P tt=af)(L:∀f vs Q l7 r,du f vs Q=ad (l7,r)->al P f l7 r) fu(x:n0<=4^nX)(hp:∀wb∈p,wb<n0)(Iu:nN nw=af)(Iv:nN bd=af)(hl:F.w0.heap.size<=l)(vZ:l∉mk)
 {v}{Q i}{k k'}{pd}(m:Nw P tt du fu nX n0 t0 p nw bd v Q k=ad (pd,i,k'))
  (y4:dz nX n0 t0 k) (jo:eN Q k) {g}{W}(hh:bw {F with n:=n0,ds:=ds0,rd:=none} (·<k) (bl nX n0 t0 Q.flatten).kn g W a0) {u}(hv:ff g v u) (Ag:∀id∈cY v,id<k)
  (am4:W.heap[l]? =ad (.loop<|pV fnid a0.tmps p nw bd D none)) (n9:∀D∈mk,W.heap[D]? =ad (.deferred<|ad []))
  {nJ:Ending->cD->Prop} (hR:∀g' W',k<=k'->eN i k'->bw {F with n:=n0,ds:=ds0,rd:=none} (·<k') (bl nX n0 t0 i.flatten).kn g' W' a0->fY (·<k) g g'->W'.heap[l]? =ad (.loop<|pV fnid a0.tmps p nw bd D pd)->(∀D∈mk,W'.heap[D]? =ad (.deferred<|ad []))->nJ (.returned<|.bool pd.isNone) W'):
  RoundIn (fw none) 0 P l fnid (q7 p u a0.tmps) nw bd W nJ:=by
 unfold Nw at m
 split at m
 .rename_i t1 A k1 S6 h1;obtain⟨Bp,h1⟩:=Ew h1 ay;have t:∀(b:Ex) B c,Et A=af->dt (ia P tt du fu nX n0 0 bd t1 A k1 []) b B i k' c->(∀j:cD,j.heap[l]? =ad (.loop {pV fnid a0.tmps p nw bd D none with state:= .busy})->∀K M,(Instr.endRound l pd).run P j= .ok M K->nJ (.returned M) K->∀a5,roundPost P l nJ b.F8 a5 j)->
    RoundIn (fw none) 0 P l fnid (q7 p u a0.tmps) nw bd W nJ:=by
   intro b B c a d S
   have h0:bw {F with n:=n0,ds:=[],rd:=ad l} (·<k) (bl nX n0 (oJ nX p v t0) Q.flatten).kn g W {tmps:=q7 p u a0.tmps,defers:=[]}:=bw.oJ x J (hh.defer [] (ad l)) hp hv Ag
   have s:=Es jV cp L fu nX n0 0 nw _ Q k [] .de t1 A k1 S6 x (be _) (dz.oJ x y4 hp Ag) jo h1
   have g2:=Es jV cp L fu nX n0 0 bd t1 A k1 [] b B i k' c x (be _) s.1.dz s.1.eN d
   refine roundIn_of_wpIn (F:=fw none) e ?_
   refine wpIn_mono (F:=fw<|ad l) (s.2.v5 (F:={F with n:=n0,ds:=[],rd:=ad l}) J (.inr Iu) h0<|Eu Bp _ _ _) ?_
   rintro e1 a1 W1 ⟨rfl,ga,ha,w,y⟩
   have X:=w.same _ _ am4 J
   have z:(pV fnid a0.tmps p nw bd D none).state= .ready:=rfl
   refine⟨_,run_beginRound X z,?_⟩
   have E:l<W1.heap.size:=(fQ.1 X).1
   have Ax:=ha.wx<|WX.putObj (.loop {pV fnid a0.tmps p nw bd D none with state:= .busy}) X J hl
   refine wpIn_mono (F:=fw<|ad l) (g2.2.v5 (F:={F with n:=n0,ds:=[],rd:=ad l}) J (.inr Iv) Ax<|Eu a _ _ _) ?_
   rintro e2 a2 W2 ⟨rfl,gb,hb,G,I⟩
   have C:=G.same _ _ (am5 (o:= .loop {pV fnid a0.tmps p nw bd D none with state:= .busy}) E) J
   have N:=run_endRound (P:=P) pd C
   refine S W2 C _ _ N ?_ a2
   have O:l<W2.heap.size:=(fQ.1 C).1
   have T:fY (·<k) g gb:=⟨y.H.trans I.H,λid U=>(I.γ id<|iz U s.1.le).trans<|y.γ id U⟩
   refine hR gb _ (cj s.1.le g2.1.le) g2.1.eN ((hh.swap hb (cj s.1.le g2.1.le) T).wx<|WX.putObj _ C J hl) T ?_ ?_
   .rw[am5 O];rfl
   .intro D' V;have Y:D'≠l:=λb=>vZ (b▸V)
    rw[Ns Y];refine G.same _ _ ?_ J;rw[Ns Y];exact w.same _ _ (n9 D' V) J
  split at m
  .rename_i B Z k2 c d;obtain⟨a,d⟩:=Ew d ay;simp only[ar,bK]at m;obtain⟨rfl,rfl,rfl⟩:=m;exact t .de B c a d<|λj _ K M he hr a5=>⟨M,K,he,hr⟩
  .rename_i id B Z k2 c d;obtain⟨a,d⟩:=Ew d ay;simp only[ar,bK]at m;obtain⟨rfl,rfl,rfl⟩:=m;exact t (.fS id) B c a d<|λj _ K M he hr a5=>⟨M,K,he,hr⟩
  .rename_i B Z k2 c d;obtain⟨a,d⟩:=Ew d ay;simp only[ar,bK]at m;obtain⟨rfl,rfl,rfl⟩:=m;exact t .ret B c a d<|λj _ K M he hr a5=>⟨M,K,he,hr⟩
  .cases m
 .cases m
end
section
variable{P:bZ}{tt:TT}{du:jB->V AV->Ms->aw (V AV×AV)}
variable{F:eP}{dep n nX n0:Y}{t0:Tr}{a0:Act}{ds0:V Is}{kt l:Y}{fnid:jB}{p:V Y}{D:Y}{nw bd:gA}{mk:V Y}
def am6{rc:aw gA->Loop}:∀c d f,Tp dep n c d=ad f->∀a W,IY F dep n nX n0 t0 a0 ds0 kt l rc mk d a W->a.eval c= .bool f:=by
 intro c d f h a W k;let ⟨g,_,_,_,hh,_⟩:=k;unfold Tp at h;split at h
 .rename_i q r;split at h
  .rename_i u t;cases h;have i:=kz (m:=d.ms.flatten) r t;exact dr hh _ c _ i<|eG _ c
  .cases h
 .cases h
def am7(jV:P.follows .mixedOrders=af)(cp:cd P tt=af)(Q:∀f vs ms l7 r,du f vs ms=ad (l7,r)->al P f l7 r) fu(hn:n<=4^dep)(OJ:n0<=4^nX)(hp:∀wb∈p,wb<n0)(Iu:nN nw=af)(Iv:nN bd=af)(hl:F.w0.heap.size<=l)(vZ:l∉mk):
  ∀c y5 r,To P tt du fu dep n kt (Z p) (Nw P tt du fu nX n0 t0 p nw bd) c y5=r->r≠ .no->∀a W,IY F dep n nX n0 t0 a0 ds0 kt l (pV fnid a0.tmps p nw bd D) mk y5 a W->
   c.wpIn (fw none) 0 P (r.post<|IY F dep n nX n0 t0 a0 ds0 kt l (pV fnid a0.tmps p nw bd D) mk) a W:=by
 intro c y5 r A E a W hI
 unfold To at A
 split at A
 .rename_i T C draw;let ⟨g,oI,jo,y4,hh,hh0,I,N,S,n9⟩:=hI;split at A
  .rename_i t' u5 k' kA h1;obtain⟨Bp,h1⟩:=Ew h1 ay;subst A;have O:=Es jV cp Q fu dep n 0 _ y5.t y5.ms y5.k [] .de t' u5 k' kA hn (be _) oI jo h1;refine wpIn_mono (F:=fw none) (O.2.v5 (F:={F with n:=n,ds:=[],rd:=none}) J (.inl J) hh<|Eu Bp _ _ _) ?_;rintro e1 e W1 ⟨rfl,ga,ha,NA,Tq⟩;exact⟨J,ga,O.1.dz,O.1.eN,y4.le O.1.le,ha,hh0.swap ha O.1.le Tq,iz I O.1.le,(Tq.γ kt I).trans N,NA.same _ _ S J,λD hD=>NA.same _ _ (n9 D hD) J⟩
  .split at A
   .split at A
    .rename_i hpd;rw[hpd]at S;unfold ab1 at A;split at A
     .rename_i i o d j x hsp;let ⟨hy,_,hoi⟩:=ab2 hsp;let ⟨ana,jZ,bV⟩:=am2 hy;have U:C[i]? =ad o:=by simpa using hoi
      have as8:i<C.size:=(fQ.1 U).1;split at A
      .rename_i gp gq hgp hgq;split at A
       .rename_i t1 ms1 k1 S6 f1 H;obtain⟨Bp,H⟩:=abX H ay;split at A
        .rename_i Iw;simp only[cr,rP,mq]at Iw;let ⟨⟨⟨⟨K,di⟩,hjn⟩,hxn⟩,Bq⟩:=Iw;have Bq:=kO Bq;split at A
         .rename_i w v hgj hgx;split at A
          .rename_i kM;have:=kO kM;subst this;split at A
           .rename_i pd SV k2 ang;split at A
            .rename_i t3 ms3 k3 wl3 f3 L;obtain⟨anh,L⟩:=abX L ay;subst A;have om:uZ P (sd P tt du<|ia P tt du fu):=Td cp Q<|Es jV cp Q fu;let ⟨Pu,ani,anj,ank⟩:=Tn cp om hn (ops:=C) (h i C.toList) 0 H hgp (λj o' hj=>by
              rw[Fl]at hj;split at hj
              .simpa using hj
              .cases hj) oI jo
             refine wpIn_region ?_;have R:cc C.size=abU 0 (h i C.toList).length++(i::(abU (i+1) (az (i+1) C.toList).length++[])):=by rw[gO,OE];have e1:(h i C.toList).length=i:=bX;have e2:(az (i+1) C.toList).length=C.size-(i+1):=ay;rw[e1,e2,<-Jg];have:C.size-(i+1)+1=C.size-i:=G;rw[this];have:=List.range'_append (s:=0) (m:=i) (n:=C.size-i) (step:=1);simp only[hO,eF]at this;rw[this];congr 1;omega
             rw[R];refine ank ({F with n:=n,ds:=[],rd:=none}.re W g y5.k) J (λ_ _ _=> .inl J) _ _ g W a (hh.re<|Eu Bp _ _ _) ?_;intro O W1 e hh1;let ⟨hA,Ts,Tt⟩:=hh.un hh1;have hC:=hh0.swap hA Pu Tt;have anm:=y4.le Pu;have hvv:∀(x:V Y)(v:V AV),(∀y∈x,y<n)->Nu dep t1 x=ad v->ff O v (x.map λy=>e.tmps.getD y undef)/\∀T∈cY v,T<k1:=by
              intro x;induction x with
              |nil=>intro v _ A;cases A;exact⟨J,λT M=>by cases M⟩
              |cons y x ih=>
               intro v hb A
               simp only[Nu]at A
               split at A
               .rename_i u vs hu xX;cases A;have hy:=hb y ay;let ⟨i1,i2⟩:=ih vs (λz hz=>hb z<|jT _ hz) xX;refine⟨⟨_,_,J,hA.eC y u<|Nz hy hu,i1⟩,λT M=>?_⟩;rcases bg.1 M with A|A
                .exact hA.ak (.s y) (.v u) (Nz hy hu) T A
                .exact i2 T A
               .cases A
             let ⟨hv,Ag⟩:=hvv x v hxn hgx;have ano:e.tmps.getD j undef= .func (.yield l) #[] #[]:=by have h1:bG O (.c<|.X w) (e.tmps.getD j undef):=hA.eC j _<|Nz hjn hgj;have h2:e.tmps.getD j undef=O.γ w:=h1;rw[h2,Tt.γ w I,N]
             show wpOpsIn (fw none) 0 P C _ (i::_) e W1;rw[wpOpsIn_cons];unfold wpOpIn;rw[U];have anp:Region.wanted o (yielded C e.tmps)=af:=by
              unfold gdY at K;unfold Region.wanted;split at K
              .rename_i hg;rw[hg]
              .rename_i gj want hg;rw[hg];split at K
               .rename_i tg htg;split at K
                .rename_i b rO lJ;have:=hA.eC tg _<|Nz (dc rO) lJ;simp only[Cq htg this];simpa using K
                .cases K
               .cases K
             simp only[anp,b9];refine⟨λ_ _=>trivial,?_⟩;have hex:(o.semAt (fw none).round e.eval).run P W1= .ok (.round l fnid (q7 p (x.map λy=>e.tmps.getD y undef) a0.tmps) nw bd) W1:=by
              show(execOp e.eval o).run P W1=_;have hy:=run_yield (P:=P) (args:=⟨x.map λy=>e.tmps.getD y undef⟩) (Ts.same _ _ S J) (by show Z (x.map _)=Z p;rw[cR];exact Bq);rw[execOp,bV];have e1:e.eval (.tmp j)= .func (.yield l) #[] #[]:=ano;have e2:(⟨x.map abZ⟩:Array dQ).map e.eval=⟨x.map λy=>e.tmps.getD y undef⟩:=by apply Cc;simp[Act.eval]
              simp only[resolve,e1,e2,F1,pure_bind,invoke];rw[<-am1,Array.empty_append];exact hy
             rw[hex];simp only[Oper.uponIn_round];refine⟨λhh=>Jf,?_⟩;refine am3 (mk:=mk) (D:=D) jV cp Q fu OJ hp Iu Iv hl vZ ang anm anj hC hv Ag (Ts.same _ _ S J) (λD hD=>Ts.same _ _ (n9 D hD) J) ?_;intro g2 W2 ab6 anr hC2 hG2 ans ant;simp only;have hA2:=(hA.swap hC2 ab6 hG2).abS (dep:=dep) (n:=n) hn J di (v:= .c<|.B pd.isNone) (u:= .bool pd.isNone) J (λT M=>by cases M);have anu:dz dep n (jn (cP dep d) (.c<|.B pd.isNone) t1) k2:=(ani.le ab6).set hn di (λT M=>by cases M);let ⟨anv,anw,anx,anz⟩:=Tn cp om hn (ops:=C) (az (i+1) C.toList) (i+1) L hgq (λj o' hj=>by rw[vz]at hj;simpa using hj) anu anr;rw[ana];refine anz ({F with n:=n,ds:=[],rd:=none}.re W2 g2 k2) J (λ_ _ _=> .inl J) _ _ g2 W2 _ (hA2.re<|Eu anh _ _ _) ?_;intro g3 W3 a3 hh3;let ⟨hA3,hK3,hG3⟩:=hA2.un hh3;have JY:y5.k<=k3:=G;refine⟨J,g3,anw,anx,y4.le JY,hA3,hC2.swap hA3 anv hG3,iz I JY,?_,hK3.same _ _ ans J,λD hD=>hK3.same _ _ (ant D hD) J⟩;rw[hG3.γ w G,hG2.γ w G,Tt.γ w I,N]
            .exact absurd A.symm E
           .exact absurd A.symm E
          .exact absurd A.symm E
         .exact absurd A.symm E
        .exact absurd A.symm E
       .exact absurd A.symm E
      .exact absurd A.symm E
     .exact absurd A.symm E
    .exact absurd A.symm E
   .exact absurd A.symm E
 .exact absurd A.symm E
end
def pW(a:Y):Is:={target:= .collected a,args:= #[]}
structure SR where
 t:Tr
 ms:Ms
 k:Y
noncomputable def NB(c:SR)(a:SY):ic SR:=match a.pd with
 |none=> .de ⟨c.t,a.ms,a.k⟩
 |some (.exit id)=> .fS id ⟨c.t,a.ms,a.k⟩
 |some .ret=> .ret ⟨c.t,a.ms,a.k⟩
 |_=> .no
noncomputable def acd(P:bZ)(l:TT)(f:jB->V AV->Ms->aw (V AV×AV))(m u dep n:Y)(p:V Y)(g v:gA)(r:V AV)(a:Func)(x:gA)(d:SR):ic SR:=
 match a.name != "runtime.NumGoroutine" &&eJ (Z r+1) a.ntmps&&eJ a.ntmps 4096&&a.results.isEmpty with
 |true=>(match gen (To P l f m (et a.ntmps) a.ntmps d.k (Z p)<|Nw P l f m dep n d.t p g v) (Tp (et a.ntmps) a.ntmps) u x ⟨mM (et a.ntmps) (.c (.X d.k)::r) 0 .e,d.ms,d.k+1,none⟩with
  | .de i=>NB d i
  | .ret i=>NB d i
  |_=> .no)
 |false=> .no
noncomputable def ace(P:bZ)(i:TT)(c:jB->V AV->Ms->aw (V AV×AV))(k l dep n:Y)(p:V Y)(d m:gA)(r:Y)(g:SR):ic SR:=
 match bu r g.ms with
 |some (.jG f [] a)=>(match rN a with
  |some ws=>(match P.funcs[f]? with
   |some fn=>(match fn.body with
    |some cb=>acd P i c k l dep n p d m ws fn cb g
    |none=> .no)
   |none=> .no)
  |none=> .no)
 |_=> .no
noncomputable def NC(P:bZ)(l:TT)(d:jB->V AV->Ms->aw (V AV×AV))(m r dep n:Y)(c:gA)(a:SR):ic SR:=match c with
 | .region id ops draw=>(match Ev a.ms (ia P l d m dep n 0 (.region id ops draw) a.t a.ms a.k [])with
  | .de u i v _=> .de ⟨u,i,v⟩
  |_=> .no)
 | .rangeFunc g ⟨p⟩ f bd=>(match p.all (λq=>dk q n)&&nN f&&nN bd with
  |true=>(match hZ dep n g with
   |some x=>(match jA a.t x with
    |some (.c<|.X id)=>ace P l d m r dep n p f bd id a
    |_=> .no)
   |none=> .no)
  |false=> .no)
 |_=> .no
noncomputable def ND(dep n:Y)(c:dQ)(a:SR):aw Bool:=match hZ dep n c with
 |some p=>(match jA a.t p with
  |some (.c<|.B b)=>ad b
  |_=>none)
 |none=>none
def IR(F:eP)(dep n:Y)(c:SR)(a:Act)(W:cD):Prop:=
 ∃(g:Gh)(mk:V Y),dz dep n c.t c.k/\eN c.ms c.k/\bw {F with n:=n,ds:=mk.map pW,rd:=none} (·<c.k) (bl dep n c.t c.ms.flatten).kn g W a/\
  (∀D∈mk,W.heap[D]? =ad (.deferred<|ad [])/\F.w0.heap.size<=D)/\mk.Nodup
section
variable{P:bZ}{tt:TT}{du:jB->V AV->Ms->aw (V AV×AV)}{F:eP}
def bw.args{S dep n k c l}{t}{m:Mem}{g}{W}{a}{ds}{rd}(f:bw {F with n:=S,ds:=ds,rd:=rd} (·<k) (bl dep n t m).kn g W a){vs}{p}(Q:ff g vs p)(H:∀r∈cY vs,r<k)(hle:Z vs<=l)(Tu:l<=4^c):
  bw {F with n:=l,ds:=[],rd:=none} (·<k) (bl c l (mM c vs 0 .e) m).kn g W {tmps:=p.toArray++sV (l-p.toArray.size) undef,defers:=[]}:=by
 have X:=xL Q
 have A:∀j v,(bl c l (mM c vs 0 .e) m).kn (.s j)=ad (.v v)->o j (dv 0 vs)=ad v:=by
  intro j v d;rw[D5]at d;simp only at d;by_cases B:j<l
  .rw[aq B,Bo _ vs 0 .e j G G,yN]at d;cases hl:o j (dv 0 vs)with
   |none=>rw[hl]at d;simp at d
   |some x=>rw[hl]at d;simp only[ud,ar,Info.v.injEq]at d;rw[d]
  .rw[b B]at d;simp at d
 refine⟨bX,J,λj v d=>?_,f.c8,f.inj,λK x L r i=>?_,f.dO,f.sub,f.below,f.le,f.fresh,f.gW⟩
 .let ⟨_,u,hu,M,_⟩:=nL vs p 0 Q j v<|A j v d;have C:p[j]? =ad u:=xM;have iN:j<Z p:=(sB.1 C).1;rw[nI,zZ CG];simpa[C]using M
 .cases K with
  |m j=>exact f.ak (.m j) x L r i
  |s j=>
   cases x with
   |b _=>simp[bl,St.kn]at L
   |v y=>exact H r<|(yY vs 0 j y<|A j y L).2 r i
def anB{dep n}:∀c d f,ND dep n c d=ad f->∀a W,IR F dep n d a W->a.eval c= .bool f:=by
 intro c d f h a W k;let ⟨g,mk,_,_,hh,_⟩:=k;unfold ND at h;split at h
 .rename_i q l;split at h
  .rename_i r p;cases h;have i:=kz (m:=d.ms.flatten) l p;exact dr hh _ c _ i<|eG _ c
  .cases h
 .cases h
def anC(jV:P.follows .mixedOrders=af)(cp:cd P tt=af)(yZ:∀f vs ms l7 r,du f vs ms=ad (l7,r)->al P f l7 r) fu fy{dep n}(hn:n<=4^dep):
  ∀c d r,NC P tt du fu fy dep n c d=r->r≠ .no->∀a W,IR F dep n d a W->c.wpIn (fw none) 0 P (r.post<|IR F dep n) a W:=by
 intro c d r h q a W hI
 unfold NC at h
 split at h
 .rename_i id ops draw;let ⟨g,mk,oI,jo,hh,L,mi⟩:=hI;split at h
  .rename_i t' u5 k' kA U;obtain⟨Bp,U⟩:=Ew U ay;subst h;have g1:=Es jV cp yZ fu dep n 0 _ d.t d.ms d.k [] .de t' u5 k' kA hn (be _) oI jo U;refine wpIn_mono (F:=fw none) (g1.2.v5 (F:={F with n:=n,ds:=mk.map pW,rd:=none}) J (.inl J) hh<|Eu Bp _ _ _) ?_;rintro e1 a1 z ⟨rfl,ga,ha,NA,Tq⟩;exact⟨J,ga,mk,g1.1.dz,g1.1.eN,ha,λD y=>⟨NA.same _ _ (L D y).1 J,(L D y).2⟩,mi⟩
  .exact absurd h.symm q
 .rename_i Tv p B bd;let ⟨g,mk,oI,jo,hh,L,mi⟩:=hI;split at h
  .rename_i Iw;simp only[cr,rP,mq]at Iw;let ⟨⟨hp,Iu⟩,Iv⟩:=Iw;split at h
   .rename_i pg hpg;split at h
    .rename_i id eD;unfold ace at h;split at h
     .rename_i f z1 wA;split at h
      .rename_i ws JA;split at h
       .rename_i fn NF;split at h
        .rename_i cb B8;unfold acd at h;split at h
         .rename_i E;simp only[cr]at E;let ⟨⟨⟨uf,I⟩,jU⟩,PA⟩:=E;have I:Z ws+1<=fn.ntmps:=dc I;have Tu:fn.ntmps<=4^et fn.ntmps:=Tb<|dc jU;have Y:ob P f=af:=by simp[ob,NF,B8,uf]
          have Ir:a.eval Tv=g.γ id:=dr hh _ Tv _ (kz (m:=d.ms.flatten) hpg eD)<|eG _ Tv;have BY:(bl dep n d.t d.ms.flatten).kn (.m id)=ad (.b<|.jG f [] z1):=by show(o id d.ms.flatten).map Info.b=_;rw[iZ,wA];rfl
          let ⟨us0,wv,hγ,N,hwv⟩:=hh.c8 id _ BY;have N:us0=[]:=N;subst N;have OF:=Kj JA hwv;have acf:∀j∈cY ws,j<d.k:=λj H=>hh.ak (.m id) _ BY j<|fZ _<|C0 JA j H
          refine wpIn_rangeFunc (F:=fw none)<|λA _=>?_;obtain⟨z,O⟩:∃z,(W.alloc<|.deferred<|ad []).alloc (.loop {state:= .ready,pending:=none,fn:=A,tmps:=a.tmps,params:=⟨p⟩,assign:=B,body:=bd,defers:=W.heap.size})=z:=⟨_,J⟩;refine⟨W.heap.size+1,[pW W.heap.size],z,{target:= .fn (.func f) wv.toArray,args:= #[.func (.yield<|W.heap.size+1) #[] #[]]},z,f,#[.func (.yield<|W.heap.size+1) #[] #[]]++wv.toArray,z,?_,?_,λ_ _=>trivial,PJ Y,λhh=>Jf,?_⟩
          .rw[<-O];exact run_enterLoop_outer A a.tmps ⟨p⟩ B bd
          .simp only[resolve,Ir,hγ,F1];simp[Act.eval]
          .have hx1:WX F.w0.heap.size W z:=by rw[<-O];exact(WX.alloc _ _ _).trans (WX.alloc _ _ _)
           have hB:F.w0.heap.size<=W.heap.size:=hh.below.size;have hD1:z.heap[W.heap.size]? =ad (.deferred<|ad []):=by rw[<-O];exact(Below.heap_alloc _ _ _ ay).trans<|anI W _
           have hL1:z.heap[W.heap.size+1]? =ad (.loop<|pV A a.tmps p B bd W.heap.size none):=by rw[<-O];have:=anI (w:=W.alloc<|.deferred<|ad [])<|.loop {state:= .ready,pending:=none,fn:=A,tmps:=a.tmps,params:=⟨p⟩,assign:=B,body:=bd,defers:=W.heap.size};rwa[World.size_alloc]at this
           have ach:∀D∈W.heap.size::mk,z.heap[D]? =ad (.deferred<|ad []):=by
            intro D y;rcases bY.1 y with rfl|y
            .exact hD1
            .have U:=(L D y).1;rw[<-O];exact(Below.heap_alloc _ _ _<|by have:=(fQ.1 U).1;simp;omega).trans<|(Below.heap_alloc _ _ _ (fQ.1 U).1).trans U
           have vZ:W.heap.size+1∉W.heap.size::mk:=by intro hc;have:=ach _ hc;rw[hL1]at this;cases this
           have hC1:=(hh.amX<|.func (.yield<|W.heap.size+1) #[] #[]).wx hx1;have acj:(g.new d.k<|.func (.yield<|W.heap.size+1) #[] #[]).γ d.k= .func (.yield<|W.heap.size+1) #[] #[]:=by simp[Gh.new]
           have Ey:fY (·<d.k) g (g.new d.k<|.func (.yield<|W.heap.size+1) #[] #[]):=⟨cK.refl _,λj H=>by have:j≠d.k:=Nat.ne_of_lt H;simp[Gh.new,this]⟩;have P8:ff (g.new d.k<|.func (.yield<|W.heap.size+1) #[] #[]) (.c (.X d.k)::ws) (.func (.yield<|W.heap.size+1) #[] #[]::wv):=by
            refine⟨_,_,J,acj.symm,?_⟩;have key:∀{xs:V AV}{vv:V a4},ff g xs vv->(∀j∈cY xs,j<d.k)->ff (g.new d.k<|.func (.yield<|W.heap.size+1) #[] #[]) xs vv:=by
             intro xs;induction xs with
             |nil=>intro vv h _;exact h
             |cons x xs ih=>
              rintro vv ⟨u,r,rfl,U,h2⟩ hb
              exact⟨u,r,J,bG.mono Ey (λj H=>hb j<|eh _ H) U,ih h2<|λj H=>hb j<|fZ _ H⟩
            exact key OF acf
           have ack:∀j∈cY (.c (.X d.k)::ws),j<d.k+1:=by
            intro j H;simp only[cY,bg]at H;rcases H with H|H
            .have:j=d.k:=by simpa[AV.ak,C.ak]using H
             omega
            .exact Nk<|acf j H
           have hA1:=hC1.args P8 ack (by simpa using I) Tu;have anK:dz (et fn.ntmps) fn.ntmps (mM (et fn.ntmps) (.c (.X d.k)::ws) 0 .e) (d.k+1):=by
            intro j v H hv i hi;rw[Bo _ _ 0 .e j bX G,yN]at hv;split at hv
            .rename_i u hu;cases hv;exact ack i<|(yY _ 0 j v hu).2 i hi
            .cases hv
           have uu:IY F (et fn.ntmps) fn.ntmps dep n d.t a (mk.map pW) d.k (W.heap.size+1) (pV A a.tmps p B bd W.heap.size) (W.heap.size::mk) ⟨mM (et fn.ntmps) (.c (.X d.k)::ws) 0 .e,d.ms,d.k+1,none⟩ {tmps:=(.func (.yield<|W.heap.size+1) #[] #[]::wv).toArray++sV (fn.ntmps-(.func (.yield<|W.heap.size+1) #[] #[]::wv).toArray.size) undef,defers:=[]} z:=
            ⟨_,anK,jo.le<|Nat.le_succ _,oI.le<|Nat.le_succ _,hA1,hC1,dL _,acj,hL1,ach⟩
           have acm:(#[.func (.yield<|W.heap.size+1) #[] #[]]++wv.toArray:Array a4)=(.func (.yield<|W.heap.size+1) #[] #[]::wv).toArray:=ay;rw[acm];refine callsIn_of_wp (F:=fw none) NF B8 e ?_;have acn:=abT (P:=P) (Fe:=fw none) (am7 (F:=F) (t0:=d.t) (mk:=W.heap.size::mk) (ds0:=mk.map pW) (a0:=a) (kt:=d.k) (l:=W.heap.size+1) (fnid:=A) (D:=W.heap.size) jV cp yZ fu Tu hn hp Iu Iv (by omega:F.w0.heap.size<=W.heap.size+1) vZ) am6 fy cb;have Kz:∀(M:SY)(a':Act)(Q:cD),NB d M=r->IY F (et fn.ntmps) fn.ntmps dep n d.t a (mk.map pW) d.k (W.heap.size+1) (pV A a.tmps p B bd W.heap.size) (W.heap.size::mk) M a' Q->
             a'.defers=[]/\∃v,(results fn a'.tmps).run P Q= .ok v Q/\rangePost (fw none) 0 P (W.heap.size+1) (r.post<|IR F dep n) {a with defers:=[pW W.heap.size]++a.defers} (.returned v) Q:=by
            intro M a' Q hf R
            let ⟨g',ata,anL,anM,hA',hC',atb,atc,K,anP⟩:=R
            refine⟨hA'.defers,.tuple #[],?_,?_⟩
            .have hre:fn.results= #[]:=by simpa using PA
             simp[results,hre]
            .have iN:W.heap.size+1<Q.heap.size:=(fQ.1 K).1;refine⟨M.pd,_,run_endLoop (P:=P) K (by cases M.pd<;>simp[pV]),?_⟩;have hw4:WX F.w0.heap.size Q (Q.putObj (W.heap.size+1)<|.loop {pV A a.tmps p B bd W.heap.size M.pd with state:= .exhausted}):=WX.putObj _ K J G;have S:IR F dep n ⟨d.t,M.ms,M.k⟩ {a with defers:=[pW W.heap.size]++a.defers} (Q.putObj (W.heap.size+1)<|.loop {pV A a.tmps p B bd W.heap.size M.pd with state:= .exhausted}):=by
              refine⟨g',W.heap.size::mk,anM,anL,?_,λD y=>⟨?_,?_⟩,?_⟩
              .have h5:=((hC'.wx hw4).defer (pW W.heap.size::mk.map pW) none);have h6:a.defers=mk.map pW:=hh.defers;rw[h6];exact h5
              .have il:D≠W.heap.size+1:=λcz=>vZ (cz▸y)
               rw[Ns il];exact anP D y
              .rcases bY.1 y with rfl|y
               .exact hB
               .exact(L D y).2
              .refine BV.2 ⟨λhc=>?_,mi⟩;have:=(fQ.1 (L _ hc).1).1;omega
             unfold NB at hf;split at hf
             .rename_i T;rw[T]at S⊢;subst hf;exact⟨J,S⟩
             .rename_i xT T;rw[T]at S⊢;subst hf;exact wpIn_exit ⟨J,S⟩
             .rename_i T;rw[T]at S⊢;subst hf;exact wpIn_ret ⟨J,S⟩
             .exact absurd hf.symm q
           split at h
           .rename_i M hg;refine wpIn_mono (F:=fw none) (acn _ _ hg ay _ _ uu) ?_;rintro cz a' Q ⟨rfl,R⟩;exact Kz M a' Q h R
           .rename_i M hg;refine wpIn_mono (F:=fw none) (acn _ _ hg ay _ _ uu) ?_;rintro cz a' Q ⟨rfl,R⟩;exact Kz M a' Q h R
           .exact absurd h.symm q
         .exact absurd h.symm q
        .exact absurd h.symm q
       .exact absurd h.symm q
      .exact absurd h.symm q
     .exact absurd h.symm q
    .exact absurd h.symm q
   .exact absurd h.symm q
  .exact absurd h.symm q
 .exact absurd h.symm q
end
noncomputable def aco(f:TT)(c:Func)(dep:Y)(g:AV):ic SR->Bool
 | .de a=>(match En f dep c.ntmps a.t a.ms c.results.toList with
  |some r=>Bj (λd=>o d a.ms.flatten) r g
  |none=>ah)
 | .ret a=>(match En f dep c.ntmps a.t a.ms c.results.toList with
  |some r=>Bj (λd=>o d a.ms.flatten) r g
  |none=>ah)
 |_=>ah
noncomputable def Tw(P:bZ)(d:TT)(a:jB->V AV->Ms->aw (V AV×AV))(g i k:Y)(f:jB)(vs:V AV)(l:AV):Bool:=match P.funcs[f]? with
 |some fn=>(match fn.body with
  |some c=>(match fn.name != "runtime.NumGoroutine" &&eJ (Z vs) fn.ntmps&&eJ fn.ntmps 4096 with
   |true=>aco d fn (et fn.ntmps) l<|gen (NC P d a g i (et fn.ntmps) fn.ntmps) (ND (et fn.ntmps) fn.ntmps) k c ⟨mM (et fn.ntmps) vs 0 .e,[[]],0⟩
   |false=>ah)
  |none=>ah)
 |none=>ah
section
variable{P:bZ}{tt:TT}{du:jB->V AV->Ms->aw (V AV×AV)}
def acp{p:Func}{a:Array a4}{r:Ending->cD->Prop}{B:Y}:∀(mk:V Y)(W:cD),(∀d∈mk,W.heap[d]? =ad (.deferred<|ad [])/\B<=d)->mk.Nodup->
  (∀f,WX B W f->∃v,(results p a).run P f= .ok v f/\r (.returned v) f)->LeavesInM (fw none) 0 P p a r (mk.map pW) .returning W
 |[],W,_,_,i=>i W<|WX.refl _ _
 |d::mk,W,hm,g,i=>by
  have k:=hm d ay;have t:=WX.putObj (B:=B) (.deferred none) k.1 J k.2;refine⟨ay,.inl ⟨d,_,J,run_takeDeferred k.1,?_⟩⟩;refine acp mk _ (λl c=>⟨?_,(hm l<|by simp[c]).2⟩) (BV.1 g).2<|λf m=>i f<|t.trans m;have n:l≠d:=λe=>(BV.1 g).1<|e▸c
  rw[Ns n];exact(hm l<|by simp[c]).1
def acq(jV:P.follows .mixedOrders=af)(cp:cd P tt=af)(yZ:∀f vs ms l7 r,du f vs ms=ad (l7,r)->al P f l7 r) fu fy fr{f}{a}{c}(hf:P.funcs[f]? =ad a)(hb:a.body=ad c)(uf:(a.name != "runtime.NumGoroutine")=af){vs}(hle:Z vs<=a.ntmps)(jU:a.ntmps<=4096)
  {A:SR} {rr:ic SR} (iR:gen (NC P tt du fu fy (et a.ntmps) a.ntmps) (ND (et a.ntmps) a.ntmps) fr c ⟨mM (et a.ntmps) vs 0 .e,[[]],0⟩=rr) (hrr:rr= .de A\/rr= .ret A) {r}(hr:En tt (et a.ntmps) a.ntmps A.t A.ms a.results.toList=ad r) (hm:cY vs=[]):CX P f vs [] 0 r A.ms.flatten A.k:=by
 refine⟨CE,be _,?_⟩
 intro F g W H hn o8 Q
 have hn4:a.ntmps<=4^et a.ntmps:=Tb jU
 refine callsIn_wide.1<|callsIn_of_wp_marks (n:=0) (F:=fw none) hf hb e ?_
 have hds:F.ds=[]:=Q.defers.symm
 have w:(H.toArray++sV (a.ntmps-H.toArray.size) undef).size=a.ntmps:=bX
 have z:∀j v,(bl (et a.ntmps) a.ntmps (mM (et a.ntmps) vs 0 .e) []).kn (.s j)=ad (.v v)->o j (dv 0 vs)=ad v:=by
  intro j v l;rw[D5]at l;simp only at l;by_cases E:j<a.ntmps
  .rw[aq E,Bo _ vs 0 .e j G G,yN]at l;cases hl:o j (dv 0 vs)with
   |none=>rw[hl]at l;simp at l
   |some x=>rw[hl]at l;simp only[ud,ar,Info.v.injEq]at l;rw[l]
  .rw[b E]at l;simp at l
 have h0:bw {F with n:=a.ntmps,ds:=[].map pW,rd:=none} (·<0) (bl (et a.ntmps) a.ntmps (mM (et a.ntmps) vs 0 .e) ([[]]:Ms).flatten).kn g W {tmps:=H.toArray++sV (a.ntmps-H.toArray.size) undef,defers:=[]}:=by
  refine⟨w,J,λj v l=>?_,λd q hb=>?_,λd I q b' kk N=>?_,λS x i d p=>?_,λd x i=>?_,Q.sub,Q.below,Q.le,Q.fresh,Q.gW⟩
  .have hl:=z j v l;have N:=Q.eC j v zY;have iN:=(yY vs 0 j v hl).1;have:(H.toArray++sV (a.ntmps-H.toArray.size) undef).getD j undef=H.toArray.getD j undef:=by rw[nI,nI,zZ bX]
   rw[this];exact N
  .simp[bl,St.kn,o]at hb
  .simp[bl,St.kn,o]at N
  .cases S with
   |m j=>simp[bl,St.kn,o]at i
   |s j=>
    cases x with
    |b _=>simp[bl,St.kn]at i
    |v y=>
     have:=(yY vs 0 j y<|z j y i).2 d p
     rw[hm]at this
     cases this
  .simp[bl,St.kn,o]at i
 have O:dz (et a.ntmps) a.ntmps (mM (et a.ntmps) vs 0 .e) 0:=by
  intro j v l Y d p;rw[Bo _ vs 0 .e j G G,yN]at Y;split at Y
  .rename_i u hu;cases Y;have:=(yY vs 0 j v hu).2 d p;rw[hm]at this;cases this
  .cases Y
 have uu:IR F (et a.ntmps) a.ntmps ⟨mM (et a.ntmps) vs 0 .e,[[]],0⟩ {tmps:=H.toArray++sV (a.ntmps-H.toArray.size) undef,defers:=[]} W:=
  ⟨g,[],O,λd q hb=>(by simp[bu,lZ]at hb),h0,λD hD=>(by cases hD),List.nodup_nil⟩
 have L:∀(M:Act)(K:cD),IR F (et a.ntmps) a.ntmps A M K->LeavesInM (fw none) 0 P a M.tmps (λX K=>∃v g',X= .returned v/\bw {F with n:=1} (·<A.k) (St.kn ⟨[(0,r)],A.ms.flatten,0,[]⟩) g' K (m9 [v])) M.defers .returning K:=by
  intro M K R;let ⟨g',mk,oI,jo,h',n9,mi⟩:=R;have hd:M.defers=mk.map pW:=h'.defers;rw[hd];refine acp (B:=F.w0.heap.size) mk K n9 mi ?_;intro W2 i;have C:=h'.wx i;have T:=abF hr;let ⟨u,hu,U⟩:=CB (P:=P) (tt:=tt) (st:=bl (et a.ntmps) a.ntmps A.t A.ms.flatten) cp C (fn:=a) (rs:=a.results.toList) ay T;have Gi:=WS (tt:=tt) C T;refine⟨u,hu,u,g',J,⟨J,hds.symm,?_,?_,?_,?_,?_,C.sub,C.below,C.le,C.fresh,C.gW⟩⟩
  .intro t x i;simp only[St.kn,o,cL]at i;let ⟨y,h,he⟩:=i;cases he;split at h
   .rename_i X;subst X;cases h;simpa[m9]using U
   .cases h
  .intro d q hb;exact C.c8 d q hb
  .intro d I q b' kk hb nE N h3;exact C.inj d I q b' kk hb nE N h3
  .intro S x i d p;cases S with
   |s t=>
    simp only[St.kn,o,cL]at i
    let ⟨y,h,he⟩:=i
    subst he
    split at h
    .cases h;exact Gi d p
    .cases h
   |m j=>exact C.ak (.m j) x i d p
  .intro d x i;exact C.dO d x i
 have V:=abT (P:=P) (Fe:=fw none) (anC (F:=F) jV cp yZ fu fy hn4) anB fr c _ rr iR (by rcases hrr with X|X<;>rw[X]<;>simp) _ W uu
 refine wpIn_mono (F:=fw none) V ?_
 intro X M K hp
 rcases hrr with e1|e1
 .rw[e1]at hp;obtain⟨rfl,R⟩:=hp;exact L M K R
 .rw[e1]at hp;obtain⟨rfl,R⟩:=hp;exact L M K R
def anT(m:P.follows .mixedOrders=af)(n:cd P tt=af)(i:∀f vs L p r,du f vs L=ad (p,r)->al P f p r) v x A{f}{vs}{B}
  (a:Tw P tt du v x A f vs B=af) (u:cY vs=[]) (F:B.ak=[]):al P f vs B:=by
 unfold Tw at a
 split at a
 .rename_i K C;split at a
  .rename_i c H;split at a
   .rename_i k;simp only[cr]at k;let ⟨⟨d,hlen⟩,t⟩:=k;unfold aco at a;split at a
    .rename_i s g;split at a
     .rename_i r l;exact Tf (acq m n i v x A C H d (dc hlen) (dc t) g (.inl J) l u) u F a
     .cases a
    .rename_i s g;split at a
     .rename_i r l;exact Tf (acq m n i v x A C H d (dc hlen) (dc t) g (.inr J) l u) u F a
     .cases a
    .cases a
   .cases a
  .cases a
 .cases a
end
def anU n:(ly n).Pairwise (λx a=>bU x.testBit n<bU a.testBit n\/(bU x.testBit n=bU a.testBit n/\x<a)):=by
 have one:∀s,(tB n s).Pairwise (λx a=>bU x.testBit n<bU a.testBit n\/(bU x.testBit n=bU a.testBit n/\x<a)):=λs=>by refine Mz ?_ (List.Pairwise.filter _ (Jd (n:=2^n)):(tB n s).Pairwise (·<·));intro x a c d g;simp only[tB,n8,beq_iff_eq]at c d;omega
 have f:∀k,((cc k).flatMap λs=>tB n<|s+1).Pairwise (λx a=>bU x.testBit n<bU a.testBit n\/(bU x.testBit n=bU a.testBit n/\x<a)):=by
  intro k;induction k with
  |zero=>exact .nil
  |succ k i=>
   rw[zz,CV]
   refine wZ.2 ⟨i,?_,λx c a d=>?_⟩
   .simp only[kH,MV,gO];exact one<|k+1
   .simp only[iP,oW,kH,MV,gO,tB,n8,beq_iff_eq]at c d;let ⟨s,l,h2,m⟩:=c;left;omega
 exact f _
open Fx
noncomputable def NG{p:Y}(H:bq p)(A:Fx p):V O:=A2<|iW H.pos A
def Tx{p}(H:bq p) A:bs p (NG H A):=(uC<|iW H.pos A).1
def anV{p}(H:bq p) A:fx (NG H A)=A:=(uC<|iW H.pos A).2
noncomputable def gT{p:Y}(H:bq p)(f:V O)(A:Fx p):V O:=(aU (NG H A) f p).2
section
variable{p:Y}(H:bq p){f:V O}(hf:bs p f)(ja:f≠[])
include hf ja
def xd(A:Fx p):bs p (gT H f A)/\Z (gT H f A)<Z f/\fx f∣fx (gT H f A)-A:=by let ⟨d1,d2,d3,d4,d5,d6⟩:=lu H.hp H.le (Tx H A).1 hf ja;have a:=cQ.2 ja;refine⟨d5<|Tx H A,by show(aU (NG H A) f p).2.length<_;omega,?_⟩;have:=MB H (Tx H A) hf ja;rwa[anV]at this
def anW{A:Fx p}{r:V O}(a:bs p r)(k:Z r<Z f)(c:fx f∣fx r-A):r=gT H f A:=by let ⟨m1,l,d⟩:=xd H hf ja A;have g:fx f∣fx r-fx (gT H f A):=nR c<|nl d;have i:=uF H g (by have:=Hm H.pos (fx r:Fx p)<|fx<|gT H f A;rw[cO a,cO m1]at this;rw[cO hf];omega);exact tx a m1<|DN i
end
def u6(p:Y)(f a c:V O):V O:=(aU (cG a c p) f p).2
def Ty{p}(H:bq p){f a b}(d:bs p f)(c:f≠[]):bs p (u6 p f a b)/\Z (u6 p f a b)<Z f/\(fx f:Fx p)∣fx (u6 p f a b)-fx a*fx b:=by let ⟨d1,d2,d3,d4,d5,d6⟩:=lu H.hp H.le (mH H.pos a b).1 d c;have g:=cQ.2 c;refine⟨d5<|mH H.pos a b,by show(aU (cG a b p) f p).2.length<_;omega,?_⟩;have:=MB H (mH H.pos a b) d c;rwa[uQ]at this
def gU(p:Y):V (V O)->Fx p
 |[]=>1
 |g::l=>fx g*gU p l
def Ix(p:Y):∀l m:V (V O),gU p (l++m)=gU p l*gU p m
 |[],m=>(one_mul _).symm
 |g::l,m=>by rw[mc,gU,gU,Ix p l m,mul_assoc]
def NH(p:Y):∀{l:V (V O)}{g:V O},g∈l->(fx g:Fx p)∣gU p l
 |a::l,g,hg=>by
  rcases bY.1 hg with rfl|hg
  .exact dvd_mul_right _ _
  .exact dV (NH p hg) _
end Go.El
namespace Go.El
open Go Go.Proofs Go.RowKit
def anX(f:Y->O){i r}(a:i<r):E ((cc r).map f) i 0=f i:=by rw[aV,iT,kS a];rfl
open Fx
open Classical in
def Tz{p:Y}(H:bq p):∀{l:V (V O)},(∀g∈l,Mon p g/\2<=Z g)->gU p l≠0/\Z l+1<=sz (gU p l)
 |[],_=>⟨pK H,by rw[gU,qR H];exact a7 _⟩
 |g::l,a=>by
  let ⟨d,h2⟩:=Tz H (l:=l) λg f=>a g (by simp[f])
  let ⟨m1,k⟩:=a g ay;have i:=dG H (m1.jN H) d;rw[cO m1.c]at i;refine⟨pE H (m1.jN H) d,?_⟩;rw[gU,eB];omega
structure tJ(p:Y)(f:V O)(l:V (V O)):Prop where
 parts:∀g∈l,Mon p g/\2<=g.length/\br (fx g:Fx p)
 prod:gU p l=fx f
structure oK(p:Y)(a:V O):Prop where
 H:bq p
 am:aL a
 l2:2<=a.length
 l9:a.length<=9
 co:Co (fx a:Fx p) (bt<|fx a)
def NI:∀(l m:V (V O)),dn (l++m)=dn l+dn m
 |[],m=>by rw[sF,dn,eF]
 |f::l,m=>by rw[mc,dn,dn,NI l m];omega
def acs{p:Y}:∀l:V (V O),gU p l=fj l
 |[]=>rfl
 |f::l=>by rw[gU,fj,acs l]
def acu{p:Y}(H:bq p):∀{l:V (V O)},(∀g∈l,br (fx g:Fx p))->pQ (fj l:Fx p)->l.Pairwise (λx a=>Co (fx x:Fx p)<|fx a)
 |[],_,_=>EA
 |x::l,i,k=>by
  have d:∀{l:V (V O)}{a:V O},a∈l->(fx a:Fx p)∣fj l:=by
   intro l;induction l with
   |nil=>intro f c;cases c
   |cons a l m=>
    intro f c
    rcases bY.1 c with rfl|c
    .exact⟨fj l,by rw[fj,mul_comm]⟩
    .let ⟨w,hw⟩:=m c;exact⟨fx a*w,by rw[fj,hw,mul_assoc]⟩
  refine ju.2 ⟨λa n=>?_,acu H (λg r=>i g<|by simp[r]) (k.of_dvd ⟨fx x,J⟩)⟩;have t:=i x ay;refine DQ H (λe=>by have:=t.1;rw[e,ko H.pos]at this;omega) λQ A B C=>k Q A ?_
  let ⟨u,hu⟩:=B;let ⟨v,F⟩:=dvd_trans C<|d n;refine⟨u*v,?_⟩;show fx x*fj l=_;rw[hu,F];ac_rfl
section
variable{p:Y}{a:V O}
def oK.p1(c:oK p a):1<(p:O):=by have:=c.H.hp.1;omega
def oK.trim(c:oK p a):aS (md p a)=md p a:=(c.am.md c.p1).trim
def oK.f(c:oK p a):Mon p (md p a)/\(md p a).length=Z a/\(fx (md p a):Fx p)=fx a:=by refine⟨⟨?_,(c.am.md c.p1).1,(c.am.md c.p1).2⟩,wC _ _,Z5 a⟩;rw[<-c.trim];exact km c.H.pos<|AE c.H.pos a
def oK.ne(c:oK p a):(fx a:Fx p)≠0:=λe=>by have:=tA c.H c.am;rw[e,ko c.H.pos]at this;have:=c.l2;omega
def oK.kV(c:oK p a):pQ (fx a:Fx p):=by let ⟨U,V,e⟩:=c.co;exact aad c.H c.ne (D:=1) (U:=U) (V:=V) (mul_one _).symm e.symm
def TA:∀{l:V (V O)},(∀f∈l,2<=Z f)->Z l<=dn l/\∀f∈l,Z f<=1+dn l
 |[],_=>⟨a7 _,λf c=>by cases c⟩
 |x::l,d=>by
  let ⟨i1,i2⟩:=TA (l:=l) λf c=>d f (by simp[c])
  have:=d x ay;refine⟨by rw[eB,dn];omega,λf c=>?_⟩;rw[dn];rcases bY.1 c with rfl|c
  .omega
  .have:=i2 f c;omega
end
def acv(a:V O):∀n,((lr a n:Y):O)=sm (λi=>(Int.natAbs (E a i 0):O)) n
 |0=>rfl
 |n+1=>by rw[lr,sm,<-acv a n,wh]
def acw{a}(m:aL a){g}(d:aL g)(t:Rx.zx g∣Rx.zx a) i:(E g i 0).natAbs<=fU a:=by
 let ⟨k,f⟩:=t;have c:Rx.Mo k:=by have:=Rx.ns m;rw[f]at this;exact this.yu<|Rx.ns d
 let ⟨i1,_⟩:=Rx.MS c (Rx.ns d)<|f▸Rx.A6 a;let ⟨q,q1,u⟩:=Rx.MG i1;subst u;have r:aL q:=Rx.MH q1 c;have n:=Rx.MI f.symm;have F:=cQ.2 r.1;have H:=cQ.2 d.1;have K:=cQ.2 m.1;have v:=Rx.dG c.ne (Rx.ns d).ne;rw[<-f,Rx.kr m.can,Rx.kr q1,Rx.kr d.can]at v;have p:=Rx.ZQ (A:=ps g) (B:=ps q) (k:=Z g-1) (l:=Z q-1) (λj x=>eK g G) (λj x=>eK q G) (by rw[cw,r.2];decide) i;rw[PS.mul_comm,n,(G:Z g-1+(Z q-1)=Z a-1)]at p;have C:Rx.na (Z a-1) (ps a)=((lr a (Z a):Y):O):=by rw[acv,Rx.na,(G:Z a-1+1=Z a)];rfl
 rw[C]at p;have e:((fU a:Y):O)=2^(Z a-1)*((lr a (Z a):Y):O):=by rw[fU,eU,s7,ef];rfl
 rw[<-e,cw]at p;omega
def jq(p:Y)(f:V O):V O:=(cc<|Z f-1).map λi=>((((i+1)%p:Y):O)*E f (i+1) 0)%(p:O)
def Iy p f:Z (jq p f)=Z f-1:=by simp[jq]
def TB p f{i}(a:i<Z f-1):E (jq p f) i 0=((((i+1)%p:Y):O)*E f (i+1) 0)%(p:O):=by unfold jq;rw[aV,iT,kS a];rfl
def TC(p:Y) f:(fx (jq p f):Fx p)=bt (fx f):=mk_eq.2 (Cg.of λi=>by
 show E (jq p f) i 0%(p:O)=((i:O)+1)*E f (i+1) 0%(p:O);by_cases h:i<Z f-1
 .rw[TB p f h,lR,GC,pC,lR,<-pC];rfl
 .rw[eK _ (by rw[Iy];omega),eK f G,gn])
def Iz{p:Y}(a:0<p) f:rp p (jq p f):=λi=>by
 by_cases h:i<Z f-1
 .rw[TB p f h];exact⟨g6 _ G,g7 _ G⟩
 .rw[eK _ (by rw[Iy];omega)];exact⟨eO _,G⟩
def EB(p:Y)(a:V O):Bool:=decide<|List.length (fH p (aS<|md p a)<|aS<|jq p<|aS<|md p a)=1
def acx{p}(H:bq p) a:EB p a=af↔Co (fx a:Fx p) (bt<|fx a):=by
 have d:bs p (aS<|md p a):=km H.pos<|AE H.pos a;have f:bs p (aS<|jq p<|aS<|md p a):=km H.pos<|Iz A3 _;have c:(fx (aS<|md p a):Fx p)=fx a:=by rw[DY,Z5]
 have g:(fx (aS<|jq p<|aS<|md p a):Fx p)=bt (fx a):=by rw[DY,TC,c]
 unfold EB;rw[decide_eq_true_iff,ajN H.hp H.le d f,<-alq,c,g]
def TD p d(l:2<=p):∃k,1<=k/\d<p^k/\∀c,1<=c->c<k->p^c<=d:=by
 have g:∀n,n<p^n:=λn=>iz Nat.lt_two_pow_self<|AY l n
 have i:∀n,(∀c,1<=c->c<n+1->p^c<=d)\/∃k,1<=k/\d<p^k/\∀c,1<=c->c<k->p^c<=d:=by
  intro n;induction n with
  |zero=>exact .inl λc a d=>by omega
  |succ n f=>
   rcases f with f|f
   .by_cases h:p^(n+1)<=d
    .refine .inl λc g m=>?_
     by_cases e:c=n+1
     .rw[e];exact h
     .exact f c g G
    .exact .inr ⟨n+1,G,G,f⟩
   .exact .inr f
 rcases i (d+1)with h|h
 .have:=h (d+1) G G;have:=g<|d+1;omega
 .exact h
open Classical in
noncomputable def mT(p a:Y):Y:=if hp:2<=p then A2 (TD p a hp)else 1
def acy{p}(c:2<=p) a:1<=mT p a/\a<p^mT p a/\∀d,1<=d->d<mT p a->p^d<=a:=by have e:mT p a=A2 (TD p a c):=dif_pos c;rw[e];exact uC<|TD p a c
structure IA(a:V O):Prop where
 am:aL a
 l2:2<=a.length
 l9:a.length<=9
 aB:∀i,aJ 6 (a.getD i 0)
 ex:∃p∈qX,Co (fx a:Fx p) (bt<|fx a)
def anY{p}(a:p∈qX):bq p:=⟨alc a,by have:=(ZR a).2;omega⟩
open Classical in
def anZ{A}(c:Rx.sz A=2):Rx.br A:=by
 refine⟨G,λX Y e=>?_⟩;have d:A≠0:=λe=>by rw[e,Rx.ko]at c;omega
 have f:X≠0:=λa=>d (by rw[e,a,Rx.zero_mul])
 have g:Y≠0:=λa=>d (by rw[e,a,Rx.mul_zero])
 have i:=Rx.dG f g;rw[<-e,c]at i;have:=Rx.eL f;have:=Rx.eL g;omega
def IA.bB{a}(c:IA a):aJ 8 ((2*fU a:Y):O):=by have f:=ZD a c.aB (i:=Z a) (by have:=c.l9;omega);have d:2^(Z a-1)<=2^8:=fT T (by have:=c.l9;omega);unfold aJ at*;rw[oA]at*;have g:fU a<=lr a (Z a)*2^8:=jh _ d;omega
def IA.mBp{a}(d:IA a){p:Y}(q1:2<=p)(l:p<4294967296):aJ 9 ((p:O)^mT p (2*fU a))/\mT p (2*fU a)<=257:=by
 have c:=d.bB;let ⟨m,n,f⟩:=acy (p:=p) q1<|2*fU a;generalize mT p (2*fU a)=k at*;generalize 2*fU a=b at*;unfold aJ at c;rw[oA]at c;by_cases e:k=1
 .subst e;refine⟨?_,G⟩;unfold aJ;rw[eZ,ow,jS,oA];have:(4294967296:Y)^1<=4294967296^9:=fT T T;omega
 .obtain⟨j,rfl⟩:∃j,k=j+1:=⟨k-1,G⟩;have r:=f j G G;have t:p^j<4294967296^8:=G;constructor
  .unfold aJ;rw[<-s7,oA,fF];have u:p^j*p<=p^j*4294967296:=jh _ G;omega
  .have g:2^j<=p^j:=AY G j;have i:(2:Y)^j<2^256:=by refine uv g ?_;have:(4294967296:Y)^8=2^256:=T;omega
   have:=(Nat.pow_lt_pow_iff_right (a:=2) T).1 i;omega
abbrev MT:ET:= .pr (.sl au) mC
def ig(p:Y):V (V O×O)->Fx p
 |[]=>1
 |x::l=>pk (fx x.1) (ae x.2)*ig p l
def acz(p:Y)(x:V O×O):∀l,ig p (l++[x])=ig p l*pk (fx x.1) (ae x.2)
 |[]=>by show pk (fx x.1) (ae x.2)*1=1*pk (fx x.1) (ae x.2);rw[mul_one,one_mul]
 |a::l=>by rw[mc,ig,ig,acz p x l,mul_assoc]
def pull(p:Y)(g:V O):Y->V O->Y->V O×Y
 |0,f,n=>(f,n)
 |k+1,f,n=>if(aU f g p).2=[]then pull p g k (aU f g p).1 (n+1)else(f,n)
def acA{p:Y}(H:bq p){g:V O}(a:Mon p g)(m:2<=Z g):∀(k:Y)(f:V O)(n:Y),Z f<k->Mon p f->Mon p (pull p g k f n).1/\(fx f:Fx p)*pk (fx g) n=fx (pull p g k f n).1*pk (fx g) (pull p g k f n).2/\¬(fx g:Fx p)∣fx (pull p g k f n).1/\n<=(pull p g k f n).2/\((fx g:Fx p)∣fx f->n+1<=(pull p g k f n).2/\(pull p g k f n).1.length<Z f)/\(pull p g k f n).1.length<=Z f
 |0,_,_,i,_=>by omega
 |k+1,f,n,i,d=>by
  rw[pull];split
  .rename_i r;have l:=(MA H d.c a.c a.ne).1 r;have u:=AS H d.c a.c a.ne l;have t:Z g<=Z f:=by have:=jy H l<|d.jN H;rwa[cO a.c,cO d.c]at this
   have v:=Sd H d a t;let ⟨_,_,_,_,_,x⟩:=lu H.hp H.le d.c.1 a.c a.ne;have A:(aU f g p).1.length<Z f:=G;let ⟨i1,i2,i3,i4,i5,i6⟩:=acA H a m k (aU f g p).1 (n+1) G v;refine⟨i1,?_,i3,G,λ_=>⟨G,G⟩,G⟩;rw[<-i2,u,pk];ac_rfl
  .rename_i r;have l:¬(fx g:Fx p)∣fx f:=λi=>r ((MA H d.c a.c a.ne).2 i)
   exact⟨d,J,l,a7 _,λi=>absurd i l,a7 _⟩
structure tK(p:Y)(a:Fx p)(f:V O)(m:Y)(l:V (V O×O)):Prop where
 aL:Mon p f
 prod:a=pk (fx f) m*ig p l
 fW:∀x∈l,Mon p x.1/\2<=x.1.length/\br (fx x.1:Fx p)/\1<=x.2
 nd:∀x∈l,¬(fx x.1:Fx p)∣fx f
 ds:l.Pairwise λx c=>x.1≠c.1
 m1:1<=m
def TF{p:Y}(H:bq p){Q:Fx p}(a:2<=sz Q):∀m,m+1<=sz (pk Q m)
 |0=>by rw[pk,qR H];exact a7 _
 |m+1=>by
  have c:Q≠0:=λe=>by rw[e,ko H.pos]at a;omega
  have d:=dG H (A5 H c m) c;have f:=TF H a m;rw[pk];omega
def acB{p:Y}(H:bq p):∀{l:V (V O×O)},(∀x∈l,Mon p x.1/\2<=Z x.1/\1<=x.2)->ig p l≠0/\Z l+1<=sz (ig p l)/\∀x∈l,x.2+1<=sz (ig p l)
 |[],_=>⟨pK H,by rw[ig,qR H];exact a7 _,λx hx=>by cases hx⟩
 |a::l,f=>by
  let ⟨d,h2,i⟩:=acB H (l:=l) λx hx=>f x lF
  let ⟨m1,k,m⟩:=f a ay;have g:(fx a.1:Fx p)≠0:=m1.jN H;have n:=TF H (show 2<=sz (fx a.1:Fx p)by rw[cO m1.c];exact k)<|ae a.2;have r:=dG H (A5 H g<|ae a.2) d;have t:=eL H.pos d;refine⟨pE H (A5 H g _) d,?_,λx hx=>?_⟩
  .rw[ig,eB];omega
  .rw[ig];rcases bY.1 hx with rfl|hx
   .omega
   .have:=i x hx;omega
def tK.bounds{p}(H:bq p){g}{f}{m}{l}(a:tK p g f m l):Z l+1<=sz g/\(∀x∈l,x.2+1<=sz g)/\(2<=Z f->m+1<=sz g):=by
 let ⟨i,h2,k⟩:=acB H (l:=l) λx d=>⟨(a.fW x d).1,(a.fW x d).2.1,(a.fW x d).2.2.2⟩
 have n:=dG H (A5 H (a.aL.jN H) m) i;have t:=eL H.pos<|A5 H (a.aL.jN H) m;rw[<-a.prod]at n;refine⟨G,λx d=>by have:=k x d;omega,λr=>?_⟩;have u:=TF H (show 2<=sz (fx f:Fx p)by rw[cO a.aL.c];exact r) m;omega
def tK.start{p:Y}{f:V O}(c:Mon p f):tK p (fx f) f 1 [] where
 aL:=c
 prod:=by rw[qQ,ig,mul_one]
 fW:=λx a=>by cases a
 nd:=λx a=>by cases a
 ds:=EA
 m1:=a7 _
def jb(p n:Y):Y:=(n+p-1)/p
def acC{p}(H:bq p){f}(k:Mon p f)(P:2<=Z f)(v:bt (fx f:Fx p)=0):Mon p (lW p f<|jb p<|Z f)/\(fx f:Fx p)=pk (fx<|lW p f<|jb p<|Z f) p/\2<=Z (lW p f<|jb p<|Z f)/\Z (lW p f<|jb p<|Z f)<Z f:=by
 have l:=H.hp.1;have a:Z (lW p f<|jb p<|Z f)=jb p (Z f):=by simp[lW]
 have m:Z f<=jb p (Z f)*p:=by unfold jb;have:=qx (Z f+p-1) p;have:=fb (Z f+p-1) (G:0<p);rw[gN];omega
 have n:=Fx.cP H v m;have x:(Z f-1)%p=0:=eQ λQ=>by
  have B:=mk_eq.1 (v:mk (pR<|ps f) (wV<|bm.ps p f)=mk 0 (bm.zero p));have A:=B.at<|Z f-2;rw[PS.lP,gw]at A;have C:((Z f-2:Y):O)+1=((Z f-1:Y):O):=G;have F:pR (ps f) (Z f-2)=((Z f-1:Y):O)*1:=by show(((Z f-2:Y):O)+1)*E f (Z f-2+1) 0=_;rw[C,(G:Z f-2+1=Z f-1),k.one]
  rw[F,mF]at A;omega
 obtain⟨t,K⟩:∃t,Z f-1=t*p:=⟨(Z f-1)/p,by have:=qx (Z f-1) p;rw[gN];omega⟩;have r:jb p (Z f)=t+1:=by unfold jb;rw[(G:Z f+p-1=t*p+p),(zL:t*p+p=(t+1)*p)];exact Qy _ G
 have L:1<=t:=by
  rcases pq t with e|e
  .subst e;omega
  .exact e
 have M:t*2<=t*p:=jh t l;have d:∀i,E (lW p f<|jb p<|Z f) i 0=if i<jb p (Z f)then E f (i*p) 0 else 0:=λi=>by
  by_cases u:i<jb p (Z f)
  .rw[aq u];exact anX _ u
  .rw[b u,eK _ G]
 have g:E (lW p f<|jb p<|Z f) (Z (lW p f<|jb p<|Z f)-1) 0=1:=by rw[a,d,aq G,r,dE,<-K,k.one]
 refine⟨⟨⟨λi=>?_,.inr (by rw[g];decide)⟩,λe=>by rw[e]at a;simp at a;omega,g⟩,n,G,G⟩;rw[d];split
 .exact k.c.1 _
 .exact⟨eO _,H.pos⟩
structure Br(p:Y)(f:V O)(a:V (V O)):Prop where
 ok:∀g∈a,Mon p g/\2<=g.length/\br (fx g:Fx p)/\(fx g:Fx p)∣fx f
 ds:a.Pairwise λx c=>x≠c
def an1{p}(H:bq p){a d}(f:Mon p a)(g:Mon p d)(m:br (fx d:Fx p))(n:2<=Z a)(r:(fx a:Fx p)∣fx d):a=d:=by
 let ⟨w,hw⟩:=r;have i:sz (fx a:Fx p)≠1:=by rw[cO f.c];omega
 rcases m.2 _ _ hw with e|e
 .obtain⟨c,k,rfl⟩:=DP H e;have t:=dG H (uD H k)<|f.jN H;rw[<-hw,cO g.c,cO f.c,uG H k]at t;have u:Z d=Z a:=G;have l:(ps d) (Z a-1)%(p:O)=(PS.K c*ps a) (Z a-1)%(p:O):=(mk_eq.1<|show(mk (ps d) (bm.ps p d):Fx p)=mk (PS.K c*ps a) ((bm.K p c).mul<|bm.ps p a)from hw).at _;rw[PS.eX,cw,cw,f.one,<-u,g.one,mF]at l;have v:(K c:Fx p)=1:=by rw[<-nS];exact A0 l.symm
  rw[v,one_mul]at hw;exact(tx g.c f.c hw).symm
 .exact absurd e i
def NJ{p:Y}(H:bq p){Q A:Fx p}(a:br Q):∀n,Q∣pk A n->Q∣A
 |0,c=>absurd c<|a.AP H
 |n+1,c=>by
  rcases a.nU H (show Q∣pk A n*A from c)with d|d
  .exact NJ H a n d
  .exact d
def tK.pull{p}(H:bq p){u}{f}{m}{l}(c:tK p u f m l){g}{v}(d:Br p f (g::v)):
  tK p u (pull p g (Z f+1) f 0).1 m (l++[(g,(((pull p g (Z f+1) f 0).2:Y):O)*(m:O))])/\Br p (pull p g (Z f+1) f 0).1 v/\(pull p g (Z f+1) f 0).1.length<Z f:=by
 let ⟨i,g2,A,B⟩:=d.ok g ay
 let ⟨q1,q2,C,S,F,W⟩:=acA H i g2 (Z f+1) f 0 (dL _) c.aL
 let ⟨X,K⟩:=F B
 generalize Go.El.pull p g (Z f+1) f 0=x at*
 let ⟨b,n⟩:=x
 simp only at q1 q2 C S F W X K⊢
 rw[pk,mul_one]at q2
 let ⟨d1,d2⟩:=ju.1 d.ds
 have r:(fx b:Fx p)∣fx f:=NK
 refine⟨⟨q1,?_,?_,?_,?_,c.m1⟩,⟨λk L=>?_,d2⟩,K⟩
 .rw[c.prod,q2,acz,tk];have e:ae ((n:O)*(m:O))=n*m:=by rw[<-eU,bW]
  simp only[e,tj];ac_rfl
 .intro x a;rcases bg.1 a with a|a
  .exact c.fW x a
  .have e:=gI.1 a;subst e;refine⟨i,g2,A,?_⟩;have:=ya (G:0<n) (show 0<m from c.m1);show(1:O)<=(n:O)*(m:O);rw[<-eU];omega
 .intro x a;rcases bg.1 a with a|a
  .exact λj=>c.nd x a<|dvd_trans j r
  .have e:=gI.1 a;subst e;exact C
 .refine wZ.2 ⟨c.ds,R8 _ _,λx a y o e=>?_⟩;have q:=gI.1 o;subst q;exact c.nd x a (by rw[e];exact B)
 .let ⟨M,P,t,Q⟩:=d.ok k (by simp[L]);refine⟨M,P,t,?_⟩;rw[q2]at Q;rcases t.nU H Q with e|e
  .exact e
  .exact absurd (an1 H M i A P<|NJ H t n e).symm<|d1 k L
noncomputable def gh(p:Y)(m:Y):V (V O)->V O×V (V O×O)->V O×V (V O×O)
 |[],x=>x
 |g::a,x=>gh p m a ((pull p g (Z x.1+1) x.1 0).1,x.2++[(g,(((pull p g (Z x.1+1) x.1 0).2:Y):O)*(m:O))])
def TG{p:Y}(H:bq p){d:Fx p}{m:Y}:∀(a:V (V O))(f:V O)(l:V (V O×O)),tK p d f m l->Br p f a->tK p d (gh p m a (f,l)).1 m (gh p m a (f,l)).2/\(gh p m a (f,l)).1.length<=Z f/\(a≠[]->(gh p m a (f,l)).1.length<Z f)
 |[],_,_,c,_=>⟨c,a7 _,λi=>absurd J i⟩
 |g::a,f,l,c,k=>by let ⟨i1,i2,i3⟩:=c.pull H k;let ⟨j1,j2,_⟩:=TG H a _ _ i1 i2;rw[gh];exact⟨j1,by simp only at j2⊢;omega,λ_=>by simp only at j2⊢;omega⟩
def an2{p}(H:bq p){f}(a:aS (jq p f)=[]):bt (fx f:Fx p)=0:=by rw[<-TC,<-DY,a,jM]
structure Bs(p:Y)(F:Fx p)(l:V (V O×O)):Prop where
 parts:∀x∈l,Mon p x.1/\2<=x.1.length/\br (fx x.1:Fx p)/\1<=x.2
 ds:l.Pairwise λx a=>x.1≠a.1
 prod:ig p l=F
end Go.El
namespace Go.El
open Go Go.Proofs Go.RowKit
def oL(a c:O):O:=if a<c then-1 else if a>c then 1 else 0
def Bt(a c:V O):Y->O
 |0=>0
 |i+1=>if oL (E a i 0) (E c i 0)≠0 then oL (E a i 0) (E c i 0)else Bt a c i
def q8(a c:V O):O:=if Z a≠Z c then oL (Z a) (Z c)else Bt a c (Z a)
section
variable{α:Type}{d:α}{cm:α->α->O}
def gAd(d:α)(cm:α->α->O)(xs:V (α))(k:Y):Prop:=∀t,t<k->0<=cm (E xs (t+1) d) (E xs t d)
end
open Fx
abbrev d0M:V O×O:=([],0)
def an3 a c:oL a c= -oL c a:=by unfold oL;split<;>split<;>(try split)<;>omega
end Go.El
