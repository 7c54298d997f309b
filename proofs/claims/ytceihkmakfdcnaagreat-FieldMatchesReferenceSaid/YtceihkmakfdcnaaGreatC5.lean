/- Own work; no condition. -/
import Derived.RangeFuncOwn
import Derived.RangeFuncLeaves
import Derived.Scope
import Derived.Test.YtceihkmakfdcnaaGreatC4
set_option linter.all false
set_option maxHeartbeats 16000000
set_option maxRecDepth 100000
noncomputable section
open Bool renaming true->ae,false->ah
open Go renaming Program->bW,Oper->a8,Operand->fE,World->cJ,Code->fJ,FuncId->jB,Value->aT,Deferred->KA
open Go.Deferred renaming ofValue->zs
open Go.El renaming iJ->o,jz->w
open Go.Exit renaming inBlock->F8
open Go.Op renaming operands->ads
open Go.Operand renaming tmp->adY
open Go.Region renaming wanted->iv
open Go.World renaming putObj_heap_other->DR,putObj_heap_same->VC,alloc_heap_new->VO
open Go.stepG renaming exec->apB
open List renaming drop->az,length->Z,getD->I,range->bJ,range'->KB,take->r
open Nat renaming le_succ->adv,ble->fa,blt->dZ,strongRecOn->Ky,beq->jk
open Option renaming some->ad
open _root_ renaming Nat->G,Option->aw,List->E
namespace Go.El
open Go Go.RowKit
section
variable{P:bW}{tt:TT}{dep n:G}{t:Tr}{ms:Ms}{k:G}
def ado(g:G->aw Info)(a:G):∀l:E G,aD (l.map λd=>(Key.m d,g d)) (.m a)=if a∈l then ad (g a)else none
 |[]=>rfl
 |i::l=>by
  simp[gX,aD,ado g a l];by_cases b:i=a
  .subst b;simp
  .simp[b,show a≠i from λf=>b f.symm]
def adp(g:G->aw Info)(a:G):∀l:E G,aD (l.map λb=>(Key.m b,g b)) (.s a)=none
 |[]=>rfl
 |i::l=>by simp[gX,aD,b8,adp g a l]
def adq:∀{l:E (G×aA)}{d:G}{b:aA},o d l=ad b->d∈l.map (·.1)
 |[],d,b,a=>by simp[o]at a
 | (g,x)::l,d,b,a=>by
  simp[o]at a;split at a
  next f=>simp[f]
  .exact ls _<|adq a
def Vc:∀{l:E (G×aA)}{d:G},d∈l.map (·.1)->∃b,o d l=ad b
 |[],d,a=>by simp at a
 | (g,x)::l,d,a=>by
  simp[o];split
  .exact⟨_,J⟩
  .rename_i f;rcases b7.1 a with a|a
   .exact aF a.symm f
   .exact Vc a
def aoY{sC:ob}(q6:x8 P sC)(hn:n<=4^dep){aG:a8}(hg:aG.guard=none){d:G}(hd:aG.dst=ad d)(dG:d<n){cf}{args}{kH}(b9:aG.op= .call ⟨.value cf,args,kH⟩){f}{vs}{T}
  (ht:wo (bA dep n t ms.flatten) cf args.toList=ad (f,vs,T)) (N6:∀z∈T,z<k) (u7:∀z∈cX vs,z<k) (kZ:gh ms k) {a7}{B}{k'}{D}(hc:sC f vs ms k= .ok a7 B k' D):
  ∃ks,iy P n #[aG] 0 (bA dep n t ms.flatten) (bA dep n (kY (dm dep d) a7 t) B.flatten) k k' ks/\(∀p,Key.s p∈ks.1->Key.s p∈bN (cf::args.toList))/\(∀p,Key.s p∈ks.2->p=d)/\(∀z,Key.m z∈ks.1->z<k)/\(∀z,Key.m z∈ks.2->(z∈D/\z<k)\/(k<=z/\z<k')):=by
 let ⟨U,Vd,oN,M9,hold,aoZ,Kq,_⟩:=q6.ok hc kZ u7
 have C:∀z b,o z ms.flatten=ad b->z<k/\∀p∈b.ak,p<k:=λz b hb=>kZ z b OS
 let X:St:=bA dep n t ms.flatten
 let w:E (Key×aw Info):=(D.filter<|λz=>(o z ms.flatten).isSome).map<|λz=>(Key.m z,(o z B.flatten).map Info.b)
 let M:E (Key×aw Info):=(.s d,ad<|.v a7)::(w++kX k B.flatten)
 let rd:=cQ X cf++args.toList.flatMap (cQ X)++fZ X T++fZ X (ms.flatten.map (·.1))
 have Kt:∀p,aD M (.m p)=if p∈D/\(o p ms.flatten).isSome=ae then ad ((o p B.flatten).map Info.b)else if k<=p then(o p B.flatten).map (λb=>ad<|.b b)else none:=by
  intro p;simp only[M,w,aD,reduceCtorEq,b8,wi,ado (λz=>(o z B.flatten).map Info.b) p,zo,qN];by_cases h:p∈D/\(o p ms.flatten).isSome=ae
  .simp[h]
  .rw[y h,y h]
 have V:∀p,aD M (.s p)=if d=p then ad (ad<|.v a7)else none:=by intro p;simp only[M,w,aD,wi,adp (λz=>(o z B.flatten).map Info.b) p,zn,Key.s.injEq]
 have q8:∀p,p<k->p∉D->o p B.flatten=o p ms.flatten:=by intro p I Z;rw[kJ,kJ];exact M9 p I Z
 refine⟨(dL rd,gw M),⟨rd,M,?_,?_,?_,U.le,λ_ h=>h,λ_ h=>h⟩,?_,?_,?_,?_⟩
 .intro F lM Q known σ g W a K IW aX iB hK;let ⟨us,hex,zz,hkv⟩:=abV aX b9 ht U.call<|λO c=>iB O<|eT _ c;have R:∀z b,o z ms.flatten=ad b->σ (.m z)=ad (.b b):=λz b hb=>(zk (st:=X) (ids:=ms.flatten.map (·.1)) (σ:=σ)<|λO c=>iB O<|gO _ c) z (adq hb) b hb
  have Dm:d<a.tmps.size:=nX;have Gd:=Up U u7 C (λz H=>by
    rcases Vd z H with h|⟨b,hb⟩
    .exact .inl h
    .exact .inr ⟨b,by rw[kJ];exact hb⟩) (λz b hb=>by
    rcases oN z b OS with h|h
    .exact .inl (by rw[kJ];exact h)
    .refine .inr<|λp hj=>?_;rcases h p hj with h|⟨b',nq⟩
     .exact .inl h
     .exact .inr ⟨b',by rw[kJ];exact nq⟩) aX IW zz hkv R Dm
  have ao0:bw σ ((.s d,ad<|.v a7)::(qk B.flatten ms.flatten++kX k B.flatten))=bw σ M:=by
   funext A;cases A with
   |s p=>
    simp only[bw,V,aD,wi,Gv,zn,Key.s.injEq]
   |m p=>
    simp only[bw,Kt,aD,reduceCtorEq,b8,wi,JO,zo]
    by_cases L:(o p ms.flatten).isSome=ae
    .by_cases S:p∈D
     .simp[L,S]
     .let ⟨b,hb⟩:=JP.1 L;have hjk:=(C p b hb).1;simp only[L,cz,S,false_and,b8];rw[y Y,q8 p hjk S,hb,R p b hb];rfl
    .simp[L]
  rw[ao0]at Gd;unfold wpOp;simp only[vR,oG,iv,hg,cz];refine .inl ?_;unfold Oper.wp;rw[hex];simp only[Oper.upon,hd];refine Gd.mono ?_;rintro e W' ⟨v,g',rfl,h'⟩;exact hK g' W' _ h'
 .intro O c;rcases bl.1 c with h|h
  .rcases bl.1 h with h|h
   .rcases bl.1 h with h|h
    .exact eQ _ _ O h
    .let ⟨x,_,hx⟩:=js.1 h;exact eQ _ _ O hx
   .exact ly _ _ O h
  .exact ly _ _ O h
 .funext A;cases A with
  |s p=>
   simp only[bw,V,bA,St.kn,acv dep n t d p a7 hn dG]
   by_cases e:d=p<;>simp[e]
  |m p=>
   simp only[bw,Kt,bA,St.kn]
   by_cases h:p∈D/\(o p ms.flatten).isSome=ae
   .simp[h]
   .rw[y h];by_cases hk:k<=p
    .rw[q hk];cases hx:o p B.flatten with
     |some b=>rfl
     |none=>
      have:o p ms.flatten=none:=by
       cases hy:o p ms.flatten with
       |none=>rfl
       |some b=>exact aF (C p b hy).1 Y
      simp[this]
    .rw[y hk];by_cases S:p∈D
     .have lz:o p ms.flatten=none:=by
       cases hy:o p ms.flatten with
       |none=>rfl
       |some b=>exact aF ⟨S,wD⟩ h
      have:o p B.flatten=none:=by
       cases hy:o p B.flatten with
       |none=>rfl
       |some b=>
        rcases hold p b (by rw[<-kJ];exact hy)with I|⟨b0,I⟩
        .omega
        .rw[<-kJ,lz]at I;cases I
      rw[this,lz]
     .rw[q8 p Y S]
 .intro p hj;have qZ:∀A∈dL rd,A∈bN (cf::args.toList)\/∃z,A=Key.m z:=by
   intro A hk;simp only[dL,rd,gf,bl]at hk;rcases hk with((h|h)|h)|h
   .exact .inl (ff X (cf::args.toList) A<|by simp only[l6,dL,gf,bl];exact .inl h)
   .exact .inl (ff X (cf::args.toList) A<|by simp only[l6,dL,gf,bl];exact .inr h)
   .have:=kE X T A h;right;revert this;generalize T=l;intro this;induction l with
    |nil=>simp[da]at this
    |cons i l N=>simp only[da,b7]at this;exact this.elim (λe=>⟨i,e⟩) N
   .have:=kE X _ A h;right;revert this;generalize ms.flatten.map (·.1)=l;intro this;induction l with
    |nil=>simp[da]at this
    |cons i l N=>simp only[da,b7]at this;exact this.elim (λe=>⟨i,e⟩) N
  rcases qZ _ hj with h|⟨z,h⟩
  .exact h
  .cases h
 .intro p hj;apply Decidable.byContradiction;intro eZ;have:=V p;rw[y (λe=>eZ e.symm)]at this;have Z:∀{u:E (Key×aw Info)}{A:Key},A∈gw u->aD u A≠none:=by
   intro u;induction u with
   |nil=>intro A h;simp[gw]at h
   |cons x u N=>
    intro A h
    simp only[aD]
    split
    .simp
    .rename_i eZ;simp only[gw,gX,b7]at h;rcases h with h|h
     .exact aF h.symm eZ
     .exact N h
  exact Z hj this
 .intro z H;simp only[dL,rd,gf,bl]at H;have nW:∀{l:E G},Key.m z∈da l->z∈l:=by
   intro l;induction l with
   |nil=>simp[da]
   |cons i l N=>simp only[da,b7,Key.m.injEq];exact λh=>h.elim .inl<|λh=> .inr<|N h
  have sy:∀{l:E fE},Key.m z∉bN l:=by
   intro l;induction l with
   |nil=>simp[bN]
   |cons x l N=>cases x<;>simp[bN,N]
  rcases H with((h|h)|h)|h
  .exact aF (ff X [cf] (.m z) Nx) sy
  .exact aF (ff X args.toList (.m z) h) sy
  .exact N6 z<|nW<|kE X T _ h
  .let ⟨b,hb⟩:=Vc<|nW<|kE X _ _ h;exact(C z b hb).1
 .intro z H;simp only[gw,M,w,gX,gf,b7,reduceCtorEq,false_or,bl,OT]at H;rcases H with h|h
  .let ⟨p,hj,e⟩:=kd.1 h;simp only[Function.comp,Key.m.injEq]at e;subst e;let ⟨I,Z⟩:=qN.1 hj;let ⟨b,hb⟩:=JP.1 Z;exact .inl ⟨I,(C _ b hb).1⟩
  .right;have S:∀{l:E (G×aA)},Key.m z∈(kX k l).map (·.1)->k<=z/\z∈l.map (·.1):=by
    intro l;induction l with
    |nil=>simp[kX]
    |cons x l N=>
     let ⟨i,b⟩:=x
     simp only[kX]
     split
     .rename_i Dv;simp only[gX,b7,Key.m.injEq];rintro(rfl|h)
      .exact⟨Dv,.inl J⟩
      .exact⟨(N h).1,.inr (N h).2⟩
     .intro h;exact⟨(N h).1,ls _ (N h).2⟩
   let ⟨I,Z⟩:=S h;let ⟨b,hb⟩:=Vc Z;exact⟨I,(aoZ z b OS).1⟩
end
def tQ:aw G->E Key
 |some d=>[.s d]
 |none=>[]
def adr(op:Op):q7 op=op.operands.toList:=by
 unfold q7;split
 next b args a=>simp[ads,Call.operands]
 .rfl
section
variable{P:bW}{tt:TT}{dep n:G}{t:Tr}{ms:Ms}{k:G}
def ao2{l}{d}{b}(g:b.1=bN l)(i:b.2=[.s d]):Bs (bN l,[.s d]) b .n:=by
 refine⟨λf a=>?_,λf a=>?_⟩
 .obtain⟨j,rfl⟩:=Bu a;simp[g];exact a
 .simp[iW]at a;subst a;simp[i]
def adt{l}(m:n<=4^dep){d}(a:d<n)(f:eV dep n t k)(g:gh ms k){i}{v}(p:∀s∈v.ak,s<k+1):Left l dep n t ms k i (kY (dm dep d) v t) ms (k+1) i:=
 ⟨Y,(f.le Y).set m a p,g.le Y,λ_ _ h=>⟨h,J⟩,λ_ b _ h=>⟨b,h⟩,nC.refl _⟩
def ao3{f}{b g}{d}(i:d<f)(a:d∉OB f b g):d∉b/\d∉g:=by
 unfold OB at a;split at a
 .exact⟨au,a⟩
 .simp only[bl,qN,not_or,not_and]at a;exact⟨λl=>a.1 l (by simpa[vd]using i),a.2⟩
def ao4{b:ob}{s}{d}{f}{vs}{u}{v}{g}{p}{i}{x:Ft}(l:GP b s d f vs t ms k u= .ok v g p i x):
  ∃m a,b f vs ms k= .ok m g p a/\v=kY d m t/\i=OB s a u/\x= .c k p a:=by
 unfold GP at l
 split at l
 next m z B a A=>obtain⟨rfl,rfl,rfl,rfl,rfl,_⟩:=wE l;exact⟨m,a,A,J,J,J⟩
 .cases l
def Ve{u:ob}(a:x8 P u){T}(sB:T<=k)(hn:n<=4^dep){p:a8}(hg:p.guard=none){d:G}(hd:p.dst=ad d)(v:d<n){cf}{args}{W}(x:p.op= .call ⟨.value cf,args,W⟩){f}{vs}{ids}
  (ht:wo (bA dep n t ms.flatten) cf args.toList=ad (f,vs,ids)) (z:∀g∈ids,g<k) (A:∀g∈cX vs,g<k) (m6:eV dep n t k) (B:gh ms k) {wl}{t'}{i}{k'}{D}{ft:Ft} (cA:GP u T (dm dep d) f vs t ms k wl= .ok t' i k' D ft):
  ∃N,iy P n #[p] 0 (bA dep n t ms.flatten) (bA dep n t' i.flatten) k k' N/\Bs N (bN<|q7 p.op,tQ p.dst) ft/\Left T dep n t ms k wl t' i k' D:=by
 obtain⟨r,y,q,rfl,rfl,rfl⟩:=ao4 cA
 let ⟨N,hx,E,h2,F,I⟩:=aoY a hn hg hd v x ht z A B q
 let ⟨C,J,L,X,hold,H,c,e⟩:=a.ok q B A
 refine⟨N,hx,⟨λl K=>?_,λl K=>?_⟩,⟨C.le,(m6.le C.le).set hn v c,H,λj w M=>?_,λj b w O=>?_,e⟩⟩
 .cases l with
  |s j=>simp only[q7,x];exact E j K
  |m g=>exact F g K
 .cases l with
  |s j=>simp only[hd,tQ];rw[h2 j K];simp
  |m g=>exact I g K
 .let ⟨Q,R⟩:=ao3 w M;exact⟨R,X j Y Q⟩
 .rcases hold j b O with Q|Q
  .omega
  .exact Q
def adu(D:cE P tt=ae){sC:ob}(q6:x8 P sC){ke}(sB:ke<=k)(hn:n<=4^dep){o}(hg:o.guard=none){i}(A:Kd dep n o.dst o.op=ad i)(Q:eV dep n t k)(H:gh ms k){wl}{t'}{T}{k'}{mn}{f:Ft}
  (h:sH sC tt n ke i t ms k wl= .ok t' T k' mn f):
  (∃ks,iy P n #[o] 0 (bA dep n t ms.flatten) (bA dep n t' T.flatten) k k' ks/\Bs ks (bN<|q7 o.op,tQ o.dst) f/\Left ke dep n t ms k wl t' T k' mn)/\(pG o=ah->f= .n):=by
 have gen:∀{d:aw G},o.dst=d->(∀x,d=ad x->x<n)->OD dep n d o.op=ad i->∃ks,iy P n #[o] 0 (bA dep n t ms.flatten) (bA dep n t' T.flatten) k k' ks/\Bs ks (bN<|q7 o.op,tQ o.dst) f/\Left ke dep n t ms k wl t' T k' mn:=by
  intro d hd g R;unfold OD at R;split at R
  .rename_i sl sJ;have C:∀dd:aw (G×E D4),d=dd.map (·.1)->(∀x,dd=ad x->x.2=dm dep x.1/\x.1<n)->i= .gen dd sl o.op->∃ks,iy P n #[o] 0 (bA dep n t ms.flatten) (bA dep n t' T.flatten) k k' ks/\Bs ks (bN<|q7 o.op,tQ o.dst) f/\Left ke dep n t ms k wl t' T k' mn:=by
    intro dd G9 Kk I;subst I;let ⟨ks,M,K,N,W,X,r⟩:=aoW D sB hn hg (hd.trans G9) Kk sJ Q H h;refine⟨ks,M,⟨λC B=>?_,λC B=>?_⟩,r⟩
    .cases C with
     |s F=>simp only[adr];exact G7.1<|K F B
     |m S=>exact W S B
    .cases C with
     |s F=>simp[N F B,tQ]
     |m S=>exact X S B
   cases d with
   |some d=>
    simp only[aq]at R
    exact C (ad (d,dm dep d)) J (λx M=>by cases M;exact⟨J,g d J⟩) R.symm
   |none=>
    simp only[aq]at R
    exact C none J (λx M=>by cases M) R.symm
  .cases R
 unfold Kd at A
 split at A
 .rename_i hd;split at A
  .rename_i ty x cc b9;refine⟨?_,λvg=>by simp[pG,hd]at vg⟩;split at A
   .rename_i p q hp hq;cases A;simp only[sH,acZ,acY]at h;split at h
    .rename_i v w hv hw
     .split at h
      .rename_i S b us wh;split at h
       .rename_i Z;simp only[Rs.ok.injEq]at h;obtain⟨rfl,rfl,rfl,rfl,rfl⟩:=h;let ⟨M,b0,DM,DN⟩:=aoU (P:=P) (k:=k) D hg hd b9 (mm hp hv) (mm hq hw) wh;have Ku:∀F,bO F (sF S b ms)=if S=F then ad b else bO F ms:=λF=>by rw[GO,DM]
        refine⟨_,M,⟨λC B=>?_,λC B=>?_⟩,⟨Y,Q.le Y,?_,?_,?_,U9 S b ms⟩⟩
        .rcases bl.1 B with B|B
         .obtain⟨F,rfl⟩:=Bu B;simpa[q7,b9,ads]using B
         .simp only[da,iW]at B;subst B;simp[tO]
        .simp only[iW]at B;subst B;simp[oP]
        .intro F b' O;rw[Ku]at O;split at O
         next e=>cases O;subst e;exact⟨OU (H _ _ DM).1,λF hj=>OU<|(DN F hj).elim ((H _ _ DM).2 F)<|Bn Z F⟩
         .exact(H.le<|adv k) F b' O
        .intro F hj hw';let ⟨K,N⟩:=Vb hj hw';exact⟨K,by rw[Ku,y<|λe=>N e.symm]⟩
        .intro F b' _ O;rw[Ku]at O;split at O
         next e=>subst e;exact⟨b0,DM⟩
         .exact⟨b',O⟩
       .cases h
      .cases h
    .cases h
   .cases A
  .exact⟨gen hd (λx M=>by cases M) A,λvg=>by simp[pG,hd]at vg⟩
 .rename_i d hd;split at A
  .cases A
  .rename_i g;have g:d<n:=Bt g;have pv:∀{v:AV},t'=kY (dm dep d) v t->T=ms->k'=k+1->mn=wl->f= .n->(∀S∈v.ak,S<k+1)->iy P n #[o] 0 (bA dep n t ms.flatten) (bA dep n (kY (dm dep d) v t) ms.flatten) k (k+1) (bN o.op.operands.toList,[.s d])->
     (∃ks,iy P n #[o] 0 (bA dep n t ms.flatten) (bA dep n t' T.flatten) k k' ks/\Bs ks (bN<|q7 o.op,tQ o.dst) f/\Left ke dep n t ms k wl t' T k' mn)/\(pG o=ah->f= .n):=by
    rintro v rfl rfl rfl rfl rfl Z M
    exact⟨⟨_,M,ao2 (by rw[adr]) (by rw[hd];rfl),adt hn g Q H Z⟩,λ_=>rfl⟩
   split at A
   .rename_i x b9;split at A
    .rename_i p hp;cases A;simp only[sH,UZ]at h;split at h
     next v hv=>let ⟨K,N,W,X,r,L⟩:=wE h;exact pv K N W X r L<|DI D hg hd g hn (p:= .t) (by simp only[b9,vT,mm hp hv]) j
     .cases h
    .cases A
   .rename_i x b9;split at A
    .rename_i p hp;cases A;simp only[sH,UZ]at h;split at h
     next v hv=>let ⟨K,N,W,X,r,L⟩:=wE h;exact pv K N W X r L<|DI D hg hd g hn (p:= .t) (by simp only[b9,vT,mm hp hv]) j
     .cases h
    .cases A
   .rename_i bo ty x cc ty2 b9;split at A
    .rename_i p q hp hq;cases A;simp only[sH,acS,acR,acQ,acP]at h;split at h
     .rename_i a b ha hb
      .split at h
       .rename_i c pr hbt;split at h
        next Bv=>simp only[Rs.ok.injEq]at h;let ⟨K,N,W,X,r⟩:=h;refine pv K.symm N.symm W.symm X.symm r.symm (λS aY=>?_)<|DI D hg hd g hn (p:=pr) (by simp only[b9,vT,mm hp ha,mm hq hb,hbt])<|GM Bv;simp only[AV.ak,aaW hbt]at aY;cases aY
        .cases h
       .split at h
        next u hnt=>let ⟨K,N,W,X,r,L⟩:=wE h;exact pv K N W X r L<|aoS D hg hd g hn (p:= .t) (by simp only[b9,xT,mm hp ha,mm hq hb,hnt]) j
        .cases h
     .cases h
    .cases A
   .rename_i ty x cc b9;split at A
    .rename_i p q hp hq;cases A;simp only[sH,acT]at h;split at h
     .rename_i v w hv hw
      .unfold Ox at h;split at h
       .rename_i u pr I;split at h
        .rename_i Bv;let ⟨K,N,W,X,r,L⟩:=wE h;unfold acC at I;split at I
         next z hz=>cases I;exact pv K N W X r L<|adi D hg hd g hn (p:=pr) (by simp only[b9,Gs,mm hp hv,mm hq hw,hz])<|GM Bv
         .exact pv K N W X r L<|DI D hg hd g hn (p:=pr) (by simp only[b9,vT,mm hp hv,mm hq hw,I])<|GM Bv
        .cases h
       .cases h
     .cases h
    .cases A
   .rename_i ty x fi b9;split at A
    .rename_i p hp;cases A;simp only[sH,acU]at h;split at h
     .rename_i v hv;split at h
      next u hu=>let ⟨K,N,W,X,r,L⟩:=wE h;exact pv K N W X r L<|DI D hg hd g hn (p:= .t) Vf j
      .cases h
     .cases h
    .cases A
   .rename_i x F b9;split at A
    .rename_i p hp;cases A;simp only[sH,acV]at h;split at h
     .rename_i v hv;split at h
      next u hu=>let ⟨K,N,W,X,r,L⟩:=wE h;exact pv K N W X r L<|DI D hg hd g hn (p:= .t) Vf j
      .cases h
     .cases h
    .cases A
   .rename_i ty x b9;refine⟨?_,λvg=>OV⟩;split at A
    .rename_i p hp;cases A;simp only[sH,acX]at h;split at h
     .rename_i v hv;split at h
      .rename_i u ids hu;obtain⟨rfl,rfl,rfl,rfl,rfl,L⟩:=wE h;refine⟨_,aoT D hg hd g hn b9 (mm hp hv) hu,⟨λC B=>?_,λC B=>?_⟩,adt hn g Q H L⟩
       .rcases bl.1 B with B|B
        .obtain⟨F,rfl⟩:=Bu B;simpa[q7,b9,ads]using B
        .cases C with
         |s F=>exfalso;revert B;generalize ids=l;intro B;induction l with
          |nil=>simp[da]at B
          |cons a l ih=>simp[da]at B;exact ih B
         |m S=>simp only[tO];revert B;generalize ids=l;intro B;induction l with
          |nil=>simp[da]at B
          |cons a l ih=>simp only[da,b7,Key.m.injEq]at B⊢;exact B.elim .inl<|λh=> .inr<|ih h
       .simp only[iW]at B;subst B;simp[hd,tQ]
      .cases h
     .cases h
    .cases A
   .rename_i fn args kH b9;refine⟨?_,λvg=>OV⟩;split at A
    .rename_i ps U;cases A;simp only[sH,ac0]at h;split at h
     next vs V=>exact Ve q6 sB hn hg hd g b9 (ids:=[]) (by simp only[wo,OK U V,St.ev]) (λ_ h=>gL) (OL Q U V) Q H h
     .cases h
    .cases A
   .rename_i F args kH b9;refine⟨?_,λvg=>OV⟩;split at A
    .rename_i p ps hp U;cases A;simp only[sH,ac1]at h;split at h
     .rename_i vs V;split at h
      next fn M=>exact Ve q6 sB hn hg hd g b9 (ids:=[]) (by simp only[wo,OK U V,mm hp M]) (λ_ h=>gL) (OL Q U V) Q H h
      .rename_i S M;split at h
       .rename_i fn first caps hb
        split at h
        .rename_i us ws hu hw;have hlb:iJ S (bA dep n t ms.flatten).mem=ad (.eB fn first caps):=by show iJ S ms.flatten=_;rw[kJ];exact hb
         refine Ve q6 sB hn hg hd g b9 (ids:=[S]) (by simp only[wo,OK U V,mm hp M,hlb,hu,hw]) (λi I=>?_) (λi I=>?_) Q H h
         .simp only[iW]at I;subst I;exact(H _ _ hb).1
         .rw[N7,N7]at I;have DN:=(H _ _ hb).2;simp only[aA.ak,bl]at DN;rcases bl.1 I with I|I
          .exact DN i<|.inl<|Ds hu i I
          .rcases bl.1 I with I|I
           .exact OL Q U V i I
           .exact DN i<|.inr<|Ds hw i I
        .cases h
       .cases h
      .cases h
     .cases h
    .cases A
   .rename_i x ty b9;refine⟨?_,λvg=>OV⟩;split at A
    .rename_i p hp;cases A;simp only[sH,acW]at h;split at h
     .rename_i v hv;split at h
      .rename_i u hu;let ⟨K,N,W,X,r,L⟩:=wE h;unfold acD at hu;split at hu
       next z hz=>cases hu;exact(pv K N W X r L<|adi D hg hd g hn (p:= .t) (by simp only[b9,Gs,mm hp hv,hz]) j).1
       .exact(pv K N W X r L<|DI D hg hd g hn (p:= .t) Vf j).1
      .cases h
     .cases h
    .cases A
   .rename_i K N W X r L h7 h8 h9 h10;refine⟨gen hd (λx M=>by cases M;exact g) A,λvg=>?_⟩;exfalso;unfold pG at vg;rw[hd]at vg;revert vg;clear pv gen h A;cases b9:o.op with
    |move x=>exact aF b9<|K x
    |assign x=>exact aF b9<|N x
    |binOp a b c d e=>exact aF b9<|W a b c d e
    |indexAddr a b c=>exact aF b9<|X a b c
    |fieldAddr a b c=>exact aF b9<|r a b c
    |extract a b=>exact aF b9<|L a b
    |_=>simp
def Left.refl{g}{f}(a:Go.El.eV dep n t k)(d:Go.El.gh ms k):Left g dep n t ms k f t ms k f:=⟨aL _,a,d,λ_ _ h=>⟨h,J⟩,λ_ b _ h=>⟨b,h⟩,nC.refl _⟩
def Left.trans{p}{u}{v x}{a d}{z A}{f i}(m:Left p dep n t ms k u v a z f)(g:Left p dep n v a z f x d A i):Left p dep n t ms k u x d A i:=
 ⟨br m.le g.le,g.eV,g.gh,λj l B=>by
  let ⟨s,h2⟩:=g.log j l B;let ⟨C,D⟩:=m.log j l s;exact⟨C,h2.trans D⟩,λj b l H=>by
  let ⟨K,s⟩:=g.DK j b l H;exact m.DK j K l s,m.tl.trans g.tl⟩
def ao8{d}{op:Op}{i}(a:Kd dep n (ad d) op=ad i):d<n:=by
 unfold Kd at a;simp only at a;split at a
 .cases a
 next b=>exact Bt b
def adx(cK:cE P tt=ae){sC:ob}(H:x8 P sC){ke}(sB:ke<=k)(hn:n<=4^dep){u}{i}{p}(ho:u[i]? =ad p){gi:GI}(v:U0 dep n u.toList p=ad gi)(N:eV dep n t k)(Q:gh ms k){wl}{t'}{T}{k'}{mn}{f:Ft}
  (l:xV sC tt n ke gi t ms k wl= .ok t' T k' mn f):
  (∃ks,iy P n u i (bA dep n t ms.flatten) (bA dep n t' T.flatten) k k' ks/\Bs ks (zy u.toList p) f/\Left ke dep n t ms k wl t' T k' mn)/\(pG p=ah->f= .n):=by
 unfold U0 at v
 split at v
 .rename_i E A;split at v
  .rename_i W;cases v;simp[xV]at l;let ⟨⟨ks,F,h2,G⟩,I⟩:=adu cK H sB hn W A N Q l;refine⟨⟨ks,F.lift ho W,?_,G⟩,I⟩;have:zy u.toList p=(bN<|q7 p.op,tQ p.dst):=by unfold zy tQ;rw[W];cases p.dst<;>rfl
   rw[this];exact h2
  .rename_i j x W;split at v
   .rename_i e L;split at v
    .rename_i X;have X:e<n:=Bt X;have a:zy u.toList p=(.s e::bN (q7 p.op),tQ p.dst):=by unfold zy tQ;rw[W];simp[L];cases p.dst<;>rfl
     have M:gi.g=ad (dm dep e,x)/\gi.i=E/\gi.d=p.dst.map (dm dep):=by
      split at v
      next d K=>cases v;exact⟨J,J,by rw[K];rfl⟩
      next K=>cases v;exact⟨J,J,by rw[K];rfl⟩
     let ⟨O,r,R⟩:=M;simp[xV,O,r,R]at l;split at l
     .rename_i b S;have w:o e (bA dep n t ms.flatten).sl=ad (.c<|.B b):=by show o e (dW dep n t)=_;rw[vb,q X];exact S
      split at l
      .rename_i z;have z:b=x:=by simpa using z
       subst z;let ⟨⟨ks,F,h2,G⟩,I⟩:=adu (o:={p with guard:=none}) cK H sB hn J A N Q l;refine⟨⟨_,iy.guard ho W L w F,⟨λC D=>?_,h2.2⟩,G⟩,I⟩
       .rcases b7.1 D with rfl|D
        .simp[a]
        .have:=h2.1 C D;cases C with
         |s j=>rw[a];exact ls _ this
         |m id=>exact this
      .rename_i z;cases K:p.dst with
       |none=>rw[K]at l;cases l
       |some d=>
        rw[K]at l A
        simp[xK,Rs.ok.injEq]at l
        obtain⟨rfl,rfl,rfl,rfl,rfl⟩:=l
        have y:=ao8 A
        refine⟨⟨_,iy.Uw (am6 ho W L w (by cases b<;>cases x<;>simp at z⊢) K) ?_,⟨λC D=>?_,λC D=>?_⟩,⟨Y,(N.le Y).del hn y,Q.le Y,λ_ _ l=>⟨l,J⟩,λ_ b _ l=>⟨b,l⟩,nC.refl _⟩⟩,λ_=>rfl⟩
        .rw[aox dep n t ms.flatten d hn y,aa7]
        .simp[iW]at D;subst D;simp[a]
        .simp[iW]at D;subst D;simp[a,K,tQ]
     .cases l
    .cases v
   .cases v
 .cases v
def ady{a:ob}{i:G}:∀{v:E GI}{t:Tr}{ms:Ms}{k:G}{g:E G}{l:Tr}{b:Ms}{m:G}{d:E G}{f:Ft},xW a tt n i v t ms k g= .ok l b m d f->∀s,∃u,zw a tt n i v t ms k g s= .ok l b m d u
 |[],t,ms,k,g,l,b,m,d,f,p,s=>by have z:Rs.ok t ms k g .n= .ok l b m d f:=p;simp[Rs.ok.injEq]at z;obtain⟨rfl,rfl,rfl,rfl,rfl⟩:=z;exact⟨s,J⟩
 |x::r,t,ms,k,g,l,b,m,d,f,p,s=>by
  have B:xW a tt n i (x::r) t ms k g=match xV a tt n i x t ms k g with| .ok l b m d _=>xW a tt n i r l b m d| .no=> .no:=rfl
  have C:zw a tt n i (x::r) t ms k g s=match xV a tt n i x t ms k g with| .ok l b m d f=>zw a tt n i r l b m d (f::s)| .no=> .no:=rfl
  rw[B]at p;rw[C];cases A:xV a tt n i x t ms k g with
  |no=>rw[A]at p;cases p
  |ok t1 D K H f1=>
   rw[A]at p
   exact ady p _
def adz(cK:cE P tt=ae){u:ob}(D:x8 P u){ke:G}(hn:n<=4^dep){s:Array a8}:∀(H:E a8)(i:G){gs:E GI}{t:Tr}{ms:Ms}{k:G}{T:E G}{W:E Ft}{N:Tr}{m:Ms}{Q:G}{p:E G}{v:E Ft},
  zw u tt n ke gs t ms k T W= .ok N m Q p v->xX dep n s.toList H=ad gs->az i s.toList=H->ke<=k->eV dep n t k->gh ms k->
  ∃(ds:E (E (Key×Info)×E (Key×aw Info)))(cl:E G)(kk:E Ks)(fk:E Ft),Steps P n s i H (bA dep n t ms.flatten) (bA dep n N m.flatten) k Q ds cl/\abe ds kk/\v=fk.reverse++W/\Z fk=Z H/\(∀(d:G) a aG f,kk[d]? =ad a->H[d]? =ad aG->fk[d]? =ad f->Bs a (zy s.toList aG) f/\(pG aG=ah->f= .n))/\Left ke dep n t ms k T N m Q p
 |[],i,gs,t,ms,k,T,W,N,m,Q,p,v,z,hc,_,_,m6,kZ=>by simp[xX]at hc;subst hc;have h':Rd.ok t ms k T W= .ok N m Q p v:=z;simp[Rd.ok.injEq]at h';obtain⟨rfl,rfl,rfl,rfl,rfl⟩:=h';refine⟨[],[k],[],[],⟨J,J,J,J,?_,au,au,J⟩,⟨J,λd z=>by simp at z⟩,au,J,λd a aG f z=>by simp at z,Left.refl m6 kZ⟩;intro d a b _ h2;simp at h2
 |aG::H,i,gs,t,ms,k,T,W,N,m,Q,p,v,z,hc,x,c,m6,kZ=>by
  simp[xX]at hc;split at hc
  .rename_i g e hg F;cases hc;have e2:zw u tt n ke (g::e) t ms k T W=match xV u tt n ke g t ms k T with| .ok N m Q p f=>zw u tt n ke e N m Q p (f::W)| .no=> .no:=rfl
   rw[e2]at z;split at z
   .rename_i t1 ms1 k1 Vg f1 hs;have ho:s[i]? =ad aG:=by have:=bm (λl=>l[0]?) x;simpa[uS]using this
    have A:az (i+1) s.toList=H:=by rw[<-se,x];rfl
    let ⟨⟨ks,⟨rd,wr,I,L,q,hle,M,O⟩,R,y⟩,r⟩:=adx cK D c hn ho hg m6 kZ hs;let ⟨ds,cl,kk,fk,B,⟨S,U⟩,V,Vh,w,hL2⟩:=adz cK D hn H (i+1) z F A (br c y.le) y.eV y.gh;refine⟨(rd,wr)::ds,k::cl,ks::kk,f1::fk,⟨by simp[B.len],by simp[B.acn],J,by simpa using B.last,?_,?_,?_,?_⟩,⟨by simp[S],λd hj hj'=>?_⟩,by rw[V];simp,by simp[Vh],?_,y.trans hL2⟩
    .intro d a b ha hb;cases d with
     |zero=>
      simp[oG,fD,xB]at ha hb
      rw[B.first]at hb
      cases hb
      omega
     |succ d=>exact B.mono d a b xI tH
    .intro d hj a b ha hb;cases d with
     |zero=>
      simp[oG,fD,xB]at ha hb
      rw[B.first]at hb
      cases hb
      subst ha
      simpa using I
     |succ d=>
      have:=B.step d qh a b xI tH
      rw[(Y:i+(d+1)=i+1+d)]
      simpa using this
    .intro d hj kx C;cases d with
     |zero=>simp[xC]at C;simpa[qU]using L kx C
     |succ d=>
      simp[C2]at C
      have:=B.reads d qh kx C
      rw[q]at this
      simpa[qU]using this
    .rw[B.fin,q];simp[qU]
    .cases d with
     |zero=>exact⟨M,O⟩
     |succ d=>exact U d qh (by simpa using hj')
    .intro d a o' f' ha K X;cases d with
     |zero=>
      simp[oG]at ha K X
      subst ha K X
      exact⟨R,r⟩
     |succ d=>exact w d a o' f' xI (by simpa using K) (by simpa using X)
   .cases z
  .cases hc
def apb(lu:P.follows .mixedOrders=ae){x}{s}{d}{D N}{k z}{m}{H}(A:Steps P x.n d 0 d.toList D N k z m H)
  (Q:s=ae->(∀i aG cH,d[i]? =ad aG->cH∈aG.after->Region.binds .any cH=ae->cH.on<i)/\
   ∀i l,i<l->l<d.size->∀f,((f∈gw (I m i ([],[])).2/\f∈gw (I m l ([],[])).2)\/(f∈gw (I m i ([],[])).2/\f∈dL (I m l ([],[])).1)\/(f∈dL (I m i ([],[])).1/\f∈gw (I m l ([],[])).2))->np d i l)
 {id}{qV:Exit->Act->cJ->Prop} (hQ:∀g W a,aR x (·<z) N.kn g W a->qV .normal a W)
 {g}{W}{a}(h0:aR x (·<k) D.kn g W a) (T:xx x.rd d):(Code.region id d s).wpIn (dP x.rd) 0 P qV a W:=by
 have V:Z m=d.size:=by simpa using A.len
 have oF:Z H=d.size+1:=by simpa using A.acn
 let c:G->G:=λl=>I H l z
 have p:∀l,l<d.size+1->H[l]? =ad (c l):=by intro l C;have:l<Z H:=Y;simp[c,aO,df this,tK]
 have u:H[d.size]? =ad z:=by simpa using A.last
 have M:∀i,c i<=c (i+1):=by
  intro i;rcases r7 i d.size with r|r
  .exact A.mono i _ _ (p i Y)<|p (i+1) Y
  .have h:c (i+1)=z:=by simp[c,aO];rw[iw Y];rfl
   rcases r7 d.size i with w|w
   .have y:c i=z:=by simp[c,aO];rw[iw Y];rfl
    omega
   .have:i=d.size:=by omega
    subst this;have y:c d.size=z:=by simp[c,aO,u,tK]
    omega
 have E:c 0=k:=by simp[c,aO,A.first,tK]
 have L:c d.size=z:=by simp[c,aO,u,tK]
 have O:∀i,i<d.size->uL P x.n d i ((I m i ([],[])).1) ((I m i ([],[])).2) (r8 c i):=by intro i r;have:=A.step i Y _ _ (p i Y)<|p (i+1) Y;rw[xJ m _ i Y];rw[fD]at this;exact this
 have S:∀i,i<d.size->∀q∈(I m i ([],[])).1,fold (λi=>(I m i ([],[])).2) D.kn (bJ i) q.1=ad q.2:=by intro i r q K;rw[F5 m D.kn i Y];rw[xJ m _ i Y]at K;exact A.reads i Y q K
 have B:∀g W a,aR x (·<c d.size) (fold (λi=>(I m i ([],[])).2) D.kn<|bJ d.size) g W a->qV .normal a W:=by intro g W a U;refine hQ g W a ?_;rw[A.fin];rw[F5 m D.kn d.size Y,jM Y,L]at U;exact U
 have X:aR x (·<c 0) D.kn g W a:=by rw[E];exact h0
 cases s with
 |false=>exact Tq M X O S B T
 |true=>
  let ⟨y,h⟩:=Q J
  exact Ts M lu y X O S (λi l v C f a b=>h i l v C f<|.inl ⟨a,b⟩) (λi l v C f a b=>h i l v C f<|.inr<|.inl ⟨a,b⟩) (λi l v C f a b=>h i l v C f<|.inr<|.inr ⟨a,b⟩) B T
def Vi{k f:G}{i:E G}:∀{l:E G},Kb k f i l=ah->∀a∈l,a∉i/\¬(k<=a/\a<f)
 |[],_,a,b=>by cases b
 |x::s,b,a,d=>by
  simp[Kb]at b;split at b
  .cases b
  .rename_i m;split at b
   .cases b
   .rename_i p;rcases b7.1 d with rfl|d
    .refine⟨λg=>(by rw[OO.2 g]at m;cases m),λg=>?_⟩;have:(fa k a&&dZ a f)=ae:=by simp[Nat.ble_eq,vd,g]
     rw[this]at p;cases p
    .exact Vi b a d
def OW{k:G}:∀{l:E G},Kc k l=ah->∀b∈l,k<=b
 |[],_,b,d=>by cases d
 |x::m,d,b,a=>by
  simp[Kc]at d;split at d
  .cases d
  .rename_i i;rcases b7.1 a with rfl|a
   .rcases r7 b k with f|g
    .have:dZ b k=ae:=by simpa[vd]using f
     rw[this]at i;cases i
    .exact g
   .exact OW d b a
def Vj{l m}:GQ l m=ah->∀b∈l,b∉m:=by
 induction l with
 |nil=>intro _ b h;cases h
 |cons x r f=>
  intro h b a
  simp[GQ]at h
  split at h
  .cases h
  .rename_i d;rcases b7.1 a with rfl|a
   .intro g;rw[OO.2 g]at d;cases d
   .exact f h b a
def apc{f g:Ft}(b:DE f g=ah) id:¬(oP f id/\oP g id)/\¬(oP f id/\tO g id)/\¬(tO f id/\oP g id):=by
 cases f with
 |n=>simp[oP,tO]
 |m r w=>
  cases g with
  |n=>simp[oP,tO]
  |m u v=>
   simp[DE,OX]at b
   exact⟨λa=>Vj b.1.1 id a.1 a.2,λa=>Vj b.1.2 id a.1 a.2,λa=>Vj b.2 id a.1 a.2⟩
  |c k p wl=>
   simp[DE,OX]at b
   have s:w=[]:=by cases w<;>simp at b⊢
   subst s
   refine⟨by simp[oP],by simp[oP],λa=>?_⟩
   let ⟨i,l⟩:=Vi b.2 id a.1
   rcases a.2 with d|d
   .exact i d.1
   .exact l d
 |c k p wl=>
  cases g with
  |n=>simp[oP,tO]
  |m r w=>
   simp[DE,OX]at b
   refine⟨λa=>?_,λa=>?_,λa=>?_⟩
   .have i:=OW b.1.1 id a.2;have l:=OW b.1.2 id a.2;rcases a.1 with d|d<;>omega
   .let ⟨i,l⟩:=Vi b.2 id a.2;rcases a.1 with d|d
    .exact i d.1
    .exact l d
   .have i:=OW b.1.1 id a.2;have:id<k:=a.1;omega
  |c _ _ _=>simp[DE]at b
def adA{g:E Ft}:∀{l:E (G×G)},GR g l=ae->∀i f,(i,f)∈l->DE (g.getD i .n) (g.getD f .n)=ah
 |[],_,i,f,d=>by cases d
 | (a,b)::s,d,i,f,hm=>by
  simp[GR]at d;split at d
  .cases d
  .rename_i m;rcases b7.1 hm with p|hm
   .cases p;exact m
   .exact adA d i f hm
def adB{m j:G}:∀{l:E a8}{i0 a:G}{d:a8},l[a]? =ad d->pG d=ae->i0+a<j->Nat.testBit m (i0+a)=ah->(i0+a,j)∈GU m j l i0
 |[],i0,a,d,h,_,_,_=>by simp at h
 |x::i,i0,0,d,h,ht,b,f=>by simp only[oG,aq]at h;subst h;simp only[jZ]at b f⊢;simp only[GU,b,cz,ht,f,Gi,Bool.and_self];simp
 |x::i,i0,a+1,d,h,ht,b,f=>by
  have g:=adB (m:=m) (j:=j) (l:=i) (i0:=i0+1) (a:=a) fg ht Y (by rw[(Y:i0+1+a=i0+(a+1))];exact f);rw[(Y:i0+1+a=i0+(a+1))]at g;simp only[GU];rw[q Y];split
  .exact ls _ g
  .exact g
def adC{opsL:E a8}{i:G}{u:a8}(v:opsL[i]? =ad u)(d:pG u=ae):∀{ml:E G}{os:E a8}{j0 a:G}{b:a8}{m:G},ml[a]? =ad m->os[a]? =ad b->pG b=ae->i<j0+a->Nat.testBit m i=ah->(i,j0+a)∈GV opsL ml os j0
 |[],os,j0,a,b,m,g,_,_,_,_=>by simp at g
 |p::ml,[],j0,a,b,m,_,g,_,_,_=>by simp at g
 |p::ml,x::os,j0,0,b,m,hm,ho,ht,f,hb=>by simp only[oG,aq]at hm ho;subst hm ho;simp only[GV,ht,cz,jZ]at f⊢;refine eT _ ?_;have:=adB (m:=p) (j:=j0) (l:=opsL) (i0:=0) (a:=i) v d Y tH;simpa using this
 |p::ml,x::os,j0,a+1,b,m,hm,ho,ht,f,hb=>by
  have s:=adC v d (ml:=ml) (os:=os) (j0:=j0+1) (a:=a) (by simpa using hm) (by simpa using ho) ht Y hb;rw[(Y:j0+1+a=j0+(a+1))]at s;simp only[GV];split
  .exact gO _ s
  .exact s
end
def eJ(a:Rc)(f:Ex)(t:Tr)(b:Ms)(k:G)(d:E G):Prop:=match f with
 | .dQ=>a= .dQ t b k d
 | .iE id=>a= .iE id t b k d
 | .ret=>a= .ret t b k d
def Vk(P:bW)(dep n i:G)(l:fJ)(t:Tr)(d:Ms)(k:G)(m:E G)(p:Ex)(f:Tr)(a:Ms)(g:G)(b:E G):Prop:=
 Left i dep n t d k m f a g b/\J3 P n l (bA dep n t d.flatten) k p (bA dep n f a.flatten) g
section
variable{P:bW}{tt:TT}{eK:jB->E AV->Ms->aw (E AV×AV)}
def Vl{n}(a:n<=4096):n<=4^fH n:=by
 unfold fH;split
 .simpa using by omega
 .split
  .simpa using by omega
  .split
   .simpa using by omega
   .split
    .simpa using by omega
    .simpa using a
def DO(dep:G):∀(vs:E AV)(i:G)(t:Tr)(a:G),i+Z vs<=4^dep->a<4^dep->kI (dm dep a) (oO dep vs i t)=match o a (dT i vs)with|some v=>ad v|none=>kI (dm dep a) t
 |[],i,t,a,_,_=>rfl
 |v::vs,i,t,a,hle,f=>by
  have g:oO dep (v::vs) i t=oO dep vs (i+1) (kY (dm dep i) v t):=rfl;simp at hle;rw[g,DO dep vs (i+1) _ a Y f];have d:∀(l:E AV)(b:G),i<b->o i (dT b l)=none:=by
   intro l;induction l with
   |nil=>intro _ _;rfl
   |cons p l k=>intro b m;simp[dT,o];rw[y Y];exact k (b+1) Y
  simp[dT,o];by_cases h:i=a
  .subst h;rw[q J,d vs (i+1) Y];simp[J6]
  .rw[y h];rw[GH _ _ _ _ GK (λn=>h<|Dx dep Y f n)]
def Bx:∀(vs:E AV)(i d:G)(v:AV),o d (dT i vs)=ad v->d<i+Z vs/\∀f∈v.ak,f∈cX vs
 |[],i,d,v,b=>by simp[dT,o]at b
 |x::vs,i,d,v,b=>by
  simp[dT,o]at b;split at b
  next g=>cases b;subst g;exact⟨au,λf a=>by simp[cX,a]⟩
  .let ⟨k,h2⟩:=Bx vs (i+1) d v b;exact⟨cd,λf a=>by simp[cX,h2 f a]⟩
def adD{dep n}{t}{b}{x}{v}(a:Kh tt dep n t b x=ad v):qW tt (bA dep n t b.flatten) x=ad v:=by
 cases x with
 |tmp j=>
  simp[Kh]at a
  split at a
  next d=>simp[qW,bA,vb,q<|Bt d];exact a
  .cases a
 |cell j ty=>
  simp[Kh]at a
  split at a
  .rename_i d;have e:o j (bA dep n t b.flatten).sl=kI (dm dep j) t:=by show o j (dW dep n t)=_;rw[vb,q<|Bt d]
   simp[qW,e];split at a
   .rename_i f i k;simp[k];have l:o f (bA dep n t b.flatten).mem=bO f b:=kJ f b;simp[l];split at a
    next E p s sz u m g=>simp[m,g];exact a
    .cases a
   .cases a
  .cases a
def adF{dep n:G}{t:Tr}{d:Ms}:∀{xs:E ResultVar}{b:E (Bool×E C)},OI tt dep n t d xs=ad b->qX tt (bA dep n t d.flatten) xs=ad b
 |[],b,a=>a
 |x::xs,b,a=>by
  simp[OI]at a;split at a
  .rename_i v f;split at a
   next s k g i=>cases a;simp[qX,adD f,g,adF i]
   .cases a
  .cases a
def adG{dep n}{t}{d}{xs}{v}(a:G5 tt dep n t d xs=ad v):mc tt (bA dep n t d.flatten) xs=ad v:=by
 unfold G5 at a;unfold mc;split at a
 .exact adD a
 .rename_i xs b;split at a
  .rename_i g f;cases a;have:=adF f;split
   next x=>exact aF J<|b x
   .rw[this];rfl
  .cases a
def OY(own:Mem):∀(f:G)(d:E G)(a:Mem),(∀g b,o g a=ad b->o g own=ad b)->∀g b,o g (zA f own d a)=ad b->o g own=ad b
 |0,_,a,l,g,b,k=>l g b (by simpa[zA]using k)
 |f+1,[],a,l,g,b,k=>l g b (by simpa[zA]using k)
 |f+1,i::d,a,l,g,b,k=>by
  simp[zA]at k;split at k
  .exact OY own f d a l g b k
  .split at k
   .rename_i t n;refine OY own f _ _ ?_ g b k;intro p x m;simp[o]at m;split at m
    next s=>cases m;subst s;rw[<-zt];exact n
    .exact l p x m
   .exact OY own f d a l g b k
def Kv{k:G}{g:Ms}:∀{l:E G},DH k g l=ae->∀f∈l,k<=f\/∃b,bO f g=ad b
 |[],_,f,d=>by cases d
 |x::n,d,f,a=>by
  simp[DH]at d;split at d
  .rename_i i;rcases b7.1 a with rfl|a
   .exact .inl<|c7 i
   .exact Kv d f a
  .split at d
   .rename_i b m;rcases b7.1 a with rfl|a
    .exact .inr ⟨b,m⟩
    .exact Kv d f a
   .cases d
def adH{k:G}{g:Ms}:∀{l:Mem},OJ k g l=ae->∀d b,o d l=ad b->k<=d/\∀m∈b.ak,k<=m\/∃b,bO m g=ad b
 |[],_,d,b,a=>by simp[o]at a
 | (i,x)::t,a,d,b,f=>by
  simp[OJ]at a;split at a
  .rename_i n;split at a
   .rename_i p;simp[o]at f;split at f
    next s=>cases f;subst s;exact⟨c7 n,Kv p⟩
    .exact adH a d b f
   .cases a
  .cases a
def OZ{k:G}{n g:Ms}:∀{l:E G},G6 k n g l=ae->∀i∈l,∀b,bO i g=ad b->∀p∈b.ak,k<=p\/∃b,bO p n=ad b
 |[],_,i,d=>by cases d
 |x::t,d,i,a=>by
  simp[G6]at d;split at d
  .rename_i u f;split at d
   .rename_i s;rcases b7.1 a with rfl|a
    .intro b m;rw[f]at m;cases m;exact Kv s
    .exact OZ d i a
   .cases d
  .rename_i f;rcases b7.1 a with rfl|a
   .intro b m;rw[f]at m;cases m
   .exact OZ d i a
def adI{k:G}:∀{l:Mem},U7 k l=ae->∀a b,o a l=ad b->k<=a
 |[],_,a,b,f=>by simp[o]at f
 | (i,x)::n,f,a,b,g=>by
  have d:Bool.rec (motive:=λ_=>Bool) ah (U7 k n) (fa k i)=ae:=f;cases m:fa k i with
  |false=>rw[m]at d;cases d
  |true=>
   rw[m]at d
   simp[o]at g
   split at g
   next e=>subst e;exact c7 m
   .exact adI d a b g
def adJ(a:Mem)(rest:Ms)(d:G):bO d (Br a rest)=match o d a with|some b=>ad b|none=>bO d rest:=by
 rw[<-kJ];cases rest with
 |nil=>simp[Br,NG,List.flatten_nil];cases o d a<;>rfl
 |cons m r=>
  rw[show(Br a<|m::r).flatten=a++(m++r.flatten)by simp[Br],GB,(au:m++r.flatten=(m::r).flatten),kJ]
  cases o d a<;>rfl
def O0(a:G):∀(D:E G)(d:Ms),bO a (x7 D d)=if a∈D then(bO a d).map G4 else bO a d
 |[],d=>by simp[x7]
 |id::m,d=>by
  have i:=O0 a m;unfold x7;split
  .rename_i k sz l f;rw[i,GO,f];by_cases h2:id=a
   .subst h2;simp[f,G4]
   .have n:¬a=id:=λe=>h2 e.symm
    simp[h2,n]
  .rename_i g;rw[i];by_cases h2:a=id
   .subst h2;have e:(bO a d).map G4=bO a d:=by
     cases f:bO a d with
     |none=>rfl
     |some b=>
      cases b with
      |box k sz l=>exact aF f<|g k sz l
      |vec _ _ _=>rfl
      |eB _ _ _=>rfl
      |fz _ _=>rfl
      |mp _ _ _=>rfl
      |it _ _ _=>rfl
    simp[e]
   .simp[h2]
def Vm:∀(D:E G)(a:Ms),nC a (x7 D a)
 |[],a=>nC.refl a
 |id::b,a=>by
  unfold x7;split
  .exact(U9 id _ a).trans<|Vm b _
  .exact Vm b a
def Vn(cK:cE P tt=ae)(By:∀f vs g oc a7,eK f vs g=ad (oc,a7)->w P f oc a7){body:zB}
  (apd:∀dep n ke dU t g k wl cH t' A k' mn,n<=4^dep->ke<=k->eV dep n t k->gh g k->eJ (body dep n ke dU t g k wl) cH t' A k' mn->Vk P dep n ke dU t g k wl cH t' A k' mn):x8 P (vf P tt eK body):=by
 constructor
 intro f vs g k a7 A k' wl h kZ u7
 unfold vf at h
 split at h
 .rename_i oc r0 hc;dsimp only at h;generalize Kj g 200 (cX vs) []=D at h;split at h
  .rename_i p;simp only[Cr.ok.injEq]at h;obtain⟨rfl,rfl,rfl,rfl⟩:=h;simp only[cP]at p;have hm:cX oc=[]:=List.isEmpty_iff.1 p.1.2;have hf:=By _ _ _ _ _ hc;have hr:r0.ak=[]:=hf.jh;have l:∀a b,bO a (x7 D g)=ad b->∃B,bO a g=ad B/\b.ak=B.ak/\(a∉D->b=B):=λa b hb=>by
    rw[O0]at hb;split at hb
    next hd=>obtain⟨B,h0,rfl⟩:=bY.1 hb;exact⟨B,h0,adb B,λh=>aF hd h⟩
    .exact⟨b,hb,J,λ_=>rfl⟩
   refine⟨aoG hf hm D (λa=>by rw[kJ,kJ,O0]) (λa b hl=>?_) p.1.1 k,λa d=>(by rw[hr]at d;cases d),λa b hb=>?_,λa _ lv=>(by rw[O0,y lv]),λa b hb=>(by let ⟨B,h0,_⟩:=l a b hb;exact .inr ⟨B,h0⟩),λa b hb=>(by let ⟨B,h0,oN,_⟩:=l a b hb;rw[oN];exact kZ a B h0),λa d=>(by rw[hr]at d;cases d),Vm D g⟩;rotate_left
   .by_cases hd:a∈D
    .exact .inr<|OZ p.2 a hd b hb
    .let ⟨B,h0,_,he⟩:=l a b hb;rw[he hd];exact .inl h0
   unfold lkS at hl;split at hl
   next ha=>rw[kJ];refine⟨?_,hl⟩;let ⟨x,W,he⟩:=List.any_eq_true.1 ha;rw[mi he];exact W
   .cases hl
  .cases h
 .split at h
  .rename_i N hf;split at h
   .rename_i dU hb;split at h
    .rename_i p;simp only[cP]at p;let ⟨⟨qY,X⟩,iu⟩:=p;have X:Z vs<=N.ntmps:=c7 X;have hn:N.ntmps<=4^fH N.ntmps:=Vl<|c7 iu;have Bz:∀a,bO a ([]::g)=bO a g:=λ_=>rfl
     have m6:eV (fH N.ntmps) N.ntmps (oO (fH N.ntmps) vs 0 .e) k:=by
      intro j v hj hv a d;rw[DO _ vs 0 .e j Y Y,Bl]at hv;split at hv
      next u hu=>cases hv;exact u7 a<|(Bx vs 0 j v hu).2 a d
      .cases hv
     have uM:(bA (fH N.ntmps) N.ntmps (oO (fH N.ntmps) vs 0 .e) ([]::g:Ms).flatten).kn=St.kn ⟨dT 0 vs,g.flatten,0,[]⟩:=by
      rw[GJ];funext key;cases key with
      |m a=>simp[St.kn]
      |s j=>
       simp only[St.kn]
       by_cases hj:j<N.ntmps
       .rw[q hj,DO _ vs 0 .e j Y Y,Bl];cases o j (dT 0 vs)<;>rfl
       .rw[y hj];cases hl:o j (dT 0 vs)with
        |none=>rfl
        |some v=>have:=(Bx vs 0 j v hl).1;omega
     have fin:∀(cH:Ex)(S:Tr)(Q:Ms)(R:G)(H:E G),(cH= .dQ\/cH= .ret)->eJ (body (fH N.ntmps) N.ntmps k dU (oO (fH N.ntmps) vs 0 .e) ([]::g) k []) cH S Q R H->leave tt N (fH N.ntmps) g k S Q R H= .ok a7 A k' wl->
       CX P f vs g.flatten k a7 A.flatten k'/\(∀a∈a7.ak,k<=a\/∃b,bO a g=ad b)/\(∀a b,bO a A=ad b->bO a g=ad b\/∀j∈b.ak,k<=j\/∃b,bO j g=ad b)/\
       (∀a,a<k->a∉wl->bO a A=bO a g)/\(∀a b,bO a A=ad b->k<=a\/∃B,bO a g=ad B)/\gh A k'/\(∀a∈a7.ak,a<k')/\nC g A:=by
      intro cH S Q R H he hrc z
      let ⟨hL,hG⟩:=apd _ _ _ _ _ _ _ _ _ _ _ _ _ hn (aL k) m6 (show gh ([]::g) k from λa b hb=>kZ a b hb) hrc
      unfold leave at z
      split at z
      .rename_i r1 tP;split at z
       .rename_i own rest;dsimp only at z;generalize hsv:zA 1000 own (r1.ak++Ki rest H) []=sv at z;split at z
        .rename_i F;simp only[Cr.ok.injEq]at z;obtain⟨rfl,rfl,rfl,rfl⟩:=z;simp only[cP]at F;let ⟨⟨⟨Kw,DP⟩,hc3⟩,hc4⟩:=F;have K:=adG tP;have I:=OY own 1000 (r1.ak++Ki rest H) [] (λa b h=>by simp[o]at h);rw[hsv]at I;have T:=adH DP;have L:∀a,bO a (own::rest)=match o a own with|some b=>ad b|none=>bO a rest:=by
          intro a;have e1:bO a (own::rest)=match oa a own with|some b=>ad b|none=>bO a rest:=rfl
          rw[e1,zt]
         have M:∀a,a<k->bO a (own::rest)=bO a rest:=by
          intro a d;rw[L];cases ho:o a own with
          |none=>rfl
          |some b=>have:=(adI hc4) a b ho;omega
         have O:∀i j b,bO j (az i rest)=ad b->∃B,bO j (az i g)=ad B:=by intro i j b hb;have:=hL.tl (i+1) j b Y tH;simpa using this
         have hrk:∀j b,bO j rest=ad b->j<k/\∃B,bO j g=ad B:=by
          intro j b hb;let ⟨B,U⟩:=O 0 j b tH;have U:bO j g=ad B:=by simpa using U
          exact⟨(kZ j B U).1,B,U⟩
         have l:∀a b,bO a (Br sv rest)=ad b->bO a (own::rest)=ad b/\((k<=a/\o a sv=ad b)\/(a<k/\bO a rest=ad b)):=by
          intro a b hb;rw[adJ]at hb;cases hs:o a sv with
          |some x=>
           rw[hs]at hb
           cases hb
           exact⟨by rw[L,I a b hs],.inl ⟨(T a b hs).1,J⟩⟩
          |none=>
           rw[hs]at hb
           have jK:=(hrk a b hb).1
           exact⟨by rw[M a jK];exact hb,.inr ⟨jK,hb⟩⟩
         refine⟨?_,Kv Kw,?_,?_,?_,?_,?_,?_⟩
         .refine aok cK hf hb qY X he ?_ K (λa b hb=>?_)
          .rw[J3]at hG⊢;rw[uM]at hG;exact hG
          .show o a (own::rest:Ms).flatten=ad b;rw[kJ];exact(l a b OS).1
         .intro a b hb;rcases(l a b hb).2 with⟨V,h2⟩|⟨V,h2⟩
          .exact .inr (T a b h2).2
          .by_cases hw:a∈H
           .exact .inr<|OZ hc3 a hw b h2
           .have:=(hL.log a V hw).2;rw[M a V,h2,Bz]at this;exact .inl this.symm
         .intro a d hw;have V:=(hL.log a d hw).2;rw[M a d,Bz]at V;rw[adJ];have Vo:o a sv=none:=by
           cases hs:o a sv with
           |none=>rfl
           |some x=>have:=(T a x hs).1;omega
          rw[Vo];exact V
         .intro a b hb;rcases(l a b hb).2 with⟨V,h2⟩|⟨V,h2⟩
          .exact .inl V
          .exact .inr (hrk a b h2).2
         .intro a b hb;exact hL.gh a b (l a b hb).1
         .intro a d;have api:∀a∈r1.ak,a<R:=by
           have hwk:∀(x:ResultVar)(v:AV),qW tt (bA (fH N.ntmps) N.ntmps S (own::rest:Ms).flatten) x=ad v->∀a∈v.ak,a<R:=by
            intro x v W a d;cases x with
            |tmp j=>
             simp only[qW,bA,vb]at W
             split at W
             next hj=>exact hL.eV j v hj W a d
             .cases W
            |cell j ty=>
             simp only[qW]at W
             split at W
             .rename_i pid off hp;split at W
              .rename_i bt bz cs sz ag J5 FW;have h3:bO pid (own::rest)=ad (.box bt bz cs):=by rw[<-kJ];exact J5
               exact(hL.gh pid _ h3).2 a<|AW W a d
              .cases W
             .cases W
           have zC:∀(xs:E ResultVar)(ss:E (Bool×E C)),qX tt (bA (fH N.ntmps) N.ntmps S (own::rest:Ms).flatten) xs=ad ss->∀a∈et ss,a<R:=by
            intro xs;induction xs with
            |nil=>intro ss h a d;simp only[qX,aq]at h;subst h;simp[et]at d
            |cons x xs ih=>
             intro ss h a d
             simp only[qX]at h
             split at h
             .rename_i v hv;split at h
              .rename_i s a7 hs hr;cases h;simp only[et,bl]at d;rcases d with d|d
               .rw[N3 hs]at d;exact hwk x v hv a d
               .exact ih a7 hr a d
              .cases h
             .cases h
           intro a d;unfold mc at K;split at K
           .exact hwk _ _ K a d
           .simp only[bY]at K;obtain⟨ss,hss,rfl⟩:=K;exact zC _ ss hss a d
          exact api a d
         .intro i j b hi hb;have:bO j (az i rest)=ad b:=by
           obtain⟨i,rfl⟩:∃i',i=i'+1:=⟨i-1,Y⟩;cases rest with
           |nil=>simpa[Br]using hb
           |cons m a7=>simpa[Br]using hb
          exact O i j b this
        .cases z
       .cases z
      .cases z
     split at h
     next S Q R H G'=>exact fin .dQ S Q R H (.inl J) G' h
     next S Q R H G'=>exact fin .ret S Q R H (.inr J) G' h
     .cases h
    .cases h
   .cases h
  .cases h
def Vp{T:Fence}{n}{p}{α:Type}(H:α->Act->cJ->Prop)(N:α->G){Q:Exit->Act->cJ->Prop} x{a}{i}(z:H x a i)
  (round:∀x a i,H x a i->p.wpIn T n P (Exit.then (λu v=>∃A,H A u v/\N A<N x) Q) a i):(Code.loop p).wpIn T n P Q a i:=by
 intro b k K W X h
 have o:∀j x a i,N x=j->H x a i->
   ∃e u v,Q e u v/\ArrivesIn (Machine.fenced P T) P (lone (b.atR a<|.code p:: .inLoop p::k) K i) b k K e u v:=by
  intro j
  induction j using Ky with
  |_ j r=>
   intro x a i y E
   let ⟨e,f,g,hq,d⟩:=round x a i E b (.inLoop p::k) K W X h
   cases e with
   |normal=>
    let ⟨A,s,q⟩:=hq
    let ⟨B,C,D,t,m⟩:=r (N A) (y▸q) A f g J s
    exact⟨B,C,D,t,.of_steps (StepsIn.trans d<|.one (fenced_calm X h J) stepR_inLoop) m⟩
   |exit id=>exact⟨_,f,g,hq,.pass (x:= .inLoop p) J (λ_ _=> .inl au) d⟩
   |goto l=>exact⟨_,f,g,hq,.pass (x:= .inLoop p) J (λ_ _=> .inl au) d⟩
   |ret=>exact⟨_,f,g,hq,.pass (x:= .inLoop p) J (λ_ _=> .inl au) d⟩
   |panic ch=>exact⟨_,f,g,hq,.pass (x:= .inLoop p) J (λ_ _=> .inl au) d⟩
   |outgrown=>exact⟨_,f,g,hq,.pass (x:= .inLoop p) J (λ_ _=> .inl au) d⟩
 let ⟨e,u,v,hq,d⟩:=o _ x a i J z
 exact⟨e,u,v,hq,.of_steps (.one (fenced_calm X h J) stepR_loop) d⟩
def adM(lu:P.follows .mixedOrders=ae)(cK:cE P tt=ae){sC:ob}(q6:x8 P sC){dep n ke}(hn:n<=4^dep){b}{D}{gs}{ps}(d:OE dep n b.toList D=ad (gs,ps)){t}{ms}{k}{wl}(sB:ke<=k)(m6:eV dep n t k)(kZ:gh ms k){t'}{x9}{k'}{mn}{fs}
  (cA:zw sC tt n ke gs t ms k wl []= .ok t' x9 k' mn fs) (hp:∀l,ps=ad l->GR fs.reverse l=ae) id:Vk P dep n ke (.region id b D) t ms k wl .dQ t' x9 k' mn:=by
 unfold OE at d
 split at d
 .rename_i gs' Vq;have hgg:gs'=gs:=by
   split at d
   .cases d;rfl
   .split at d
    .cases d;rfl
    .cases d
  subst hgg;let ⟨ds,cl,kk,c,hS,⟨Kw,DP⟩,Vr,Vh,H,hL⟩:=adz cK q6 hn b.toList 0 cA Vq au sB m6 kZ;refine⟨hL,hL.le,λF hF lv g W a e=>?_⟩;subst hF;refine apb lu hS ?_ (λg W a h'=>⟨J,g,h'⟩) e lv.region;intro hd;subst hd;simp only at d;split at d
  .rename_i q;cases d;have ho:=T0 q;refine⟨ho.1,?_⟩;have N:=hp _ J;rw[Vr]at N;simp[List.reverse_reverse]at N;intro i j Tt hj p K;have hds:Z ds=b.size:=by simpa using hS.len
   have az':Z c=b.size:=by simpa using Vh
   have r:∀x,x<b.size->∃o a f,b.toList[x]? =ad o/\kk[x]? =ad a/\c[x]? =ad f/\(∀p∈dL (I ds x ([],[])).1,p∈a.1)/\(∀p∈gw (I ds x ([],[])).2,p∈a.2):=by intro x hx;have h1:x<Z kk:=Y;have h2:x<Z ds:=Y;have h3:x<Z b.toList:=Gx;have h4:x<Z c:=Y;refine⟨_,_,_,df h3,df h1,df h4,?_⟩;rw[xJ ds _ x h2];exact DP x h2 h1
   let ⟨oi,ai,w,Q,hai,y,E,z⟩:=r i Y;let ⟨oj,aj,G,T,haj,L,M,A⟩:=r j hj;let ⟨⟨O,B⟩,pq⟩:=H i ai oi w hai Q y;let ⟨⟨R,C⟩,htj⟩:=H j aj oj G haj T L;have X:py (zy b.toList oi) (zy b.toList oj)=ae->np b i j:=by
    intro oF;refine ho.2 i j _ _ Tt hj ?_ ?_ oF
    .rw[ju,Q];rfl
    .rw[ju,T];rfl
   have S:∀x,((oP w x/\oP G x)\/(oP w x/\tO G x)\/(tO w x/\oP G x))->np b i j:=by
    intro x hx;let ⟨O1,hms⟩:=TZ (ops:=b) b.toList [] au au (λk hk=>by simp at hk);have U:j<Z (sc b.toList []):=Y;by_cases hb:(sc b.toList [])[j].testBit i=ae
    .exact hms j U i hb
    .exfalso;have V:pG oi=ae:=by
      cases e:pG oi with
      |true=>rfl
      |false=>rw[pq e]at hx;simp[oP,tO]at hx
     have apr:pG oj=ae:=by
      cases e:pG oj with
      |true=>rfl
      |false=>rw[htj e]at hx;simp[oP,tO]at hx
     have hcf:=adA N i (0+j)<|adC (opsL:=b.toList) Q V (ml:=sc b.toList []) (os:=b.toList) (j0:=0) (a:=j) (m:=(sc b.toList [])[j]) (df U) T apr Y tH;have e1:c.getD i .n=w:=by rw[aO,y];rfl
     have e2:c.getD (0+j) .n=G:=by rw[fD,aO,L];rfl
     rw[e1,e2]at hcf;let ⟨n1,n2,n3⟩:=apc hcf x;rcases hx with hx|hx|hx
     .exact n1 hx
     .exact n2 hx
     .exact n3 hx
   cases p with
   |s x=>
    refine X ?_
    rcases K with⟨u,v⟩|⟨u,v⟩|⟨u,v⟩
    .simp[py,za (B _<|z _ u)<|C _<|A _ v,F6]
    .simp[py,za (B _<|z _ u)<|R _<|M _ v,F6,F7]
    .simp[py,za (O _<|E _ u)<|C _<|A _ v,F7]
   |m x=>
    refine S x ?_
    rcases K with⟨u,v⟩|⟨u,v⟩|⟨u,v⟩
    .exact .inl ⟨B _<|z _ u,C _<|A _ v⟩
    .exact .inr<|.inl ⟨B _<|z _ u,R _<|M _ v⟩
    .exact .inr<|.inr ⟨O _<|E _ u,C _<|A _ v⟩
  .cases d
 .cases d
def oQ{a:Ex}{t}{b}{k}{d}(f:eJ .no a t b k d):False:=by cases a<;>simp[eJ]at f
def eJ.inj{g:Rc}{e f:Ex}{t i}{l a}{k m}{n b}(p:eJ g e t l k n)(d:eJ g f i a m b):e=f/\t=i/\l=a/\k=m/\n=b:=by cases e<;>cases f<;>simp[eJ]at p d<;>rw[p]at d<;>simp at d<;>simp[d]
def eJ.get{r:Rc}:r= .no\/∃d t a k b,eJ r d t a k b:=by
 cases r with
 |no=>exact .inl J
 |dQ t a k b=>exact .inr ⟨.dQ,t,a,k,b,J⟩
 |iE id t a k b=>exact .inr ⟨.iE id,t,a,k,b,J⟩
 |ret t a k b=>exact .inr ⟨.ret,t,a,k,b,J⟩
def Ha(lu:P.follows .mixedOrders=ae)(cK:cE P tt=ae)(By:∀f vs N oc a7,eK f vs N=ad (oc,a7)->w P f oc a7):
  ∀(f dep n Q:G)(dU:fJ)(t:Tr)(N:Ms)(k:G)(wl:E G)(e:Ex)(t':Tr)(D:Ms)(k':G)(H:E G),n<=4^dep->Q<=k->eV dep n t k->gh N k->eJ (jD P tt eK f dep n Q dU t N k wl) e t' D k' H->Vk P dep n Q dU t N k wl e t' D k' H:=by
 intro f
 induction f using Ky with
 |_ f0 Vs=>
 cases f0 with
 |zero=>intro dep n Q dU t N k wl e t' D k' H _ _ _ _ h;exact(oQ h).elim
 |succ f=>
  have ih:=Vs f Y
  intro dep n Q dU t N k wl e t' D k' H hn q T X h
  cases dU with
  |skip=>
   have V:eJ (.dQ t N k wl) .dQ t N k wl:=rfl
   obtain⟨rfl,rfl,rfl,rfl,rfl⟩:=eJ.inj V h
   exact⟨Left.refl T X,aL _,λF o i g W a A=>wpIn_skip ⟨J,g,A⟩⟩
  |exit id=>
   have V:eJ (.iE id t N k wl) (.iE id) t N k wl:=rfl
   obtain⟨rfl,rfl,rfl,rfl,rfl⟩:=eJ.inj V h
   exact⟨Left.refl T X,aL _,λF o i g W a A=>wpIn_exit ⟨J,g,A⟩⟩
  |ret=>
   have V:eJ (.ret t N k wl) .ret t N k wl:=rfl
   obtain⟨rfl,rfl,rfl,rfl,rfl⟩:=eJ.inj V h
   exact⟨Left.refl T X,aL _,λF o i g W a A=>wpIn_ret ⟨J,g,A⟩⟩
  |seq x y=>
   have d:eJ (match jD P tt eK f dep n Q x t N k wl with| .dQ L v M z=>jD P tt eK f dep n Q y L v M z|a7=>a7) e t' D k' H:=h
   rcases eJ.get (r:=jD P tt eK f dep n Q x t N k wl)with u|⟨e1,L,v,M,z,u⟩
   .rw[u]at d;exact(oQ d).elim
   .have s:=ih _ _ _ _ _ _ _ _ _ _ _ _ _ hn q T X u;cases e1 with
    |dQ=>
     simp only[eJ]at u
     rw[u]at d
     have g2:=ih _ _ _ _ _ _ _ _ _ _ _ _ _ hn (br q s.1.le) s.1.eV s.1.gh d
     refine⟨s.1.trans g2.1,br s.2.1 g2.2.1,λF o i g W a A=>wpIn_seq<|wpIn_mono (s.2.2 F o i.seq.1 g W a A) ?_⟩
     rintro e' a' W' ⟨rfl,O,R⟩
     exact g2.2.2 F o i.seq.2 O W' a' R
    |iE id=>
     simp only[eJ]at u
     rw[u]at d
     obtain⟨rfl,rfl,rfl,rfl,rfl⟩:=eJ.inj (e:= .iE id) J d
     refine⟨s.1,s.2.1,λF o i g W a A=>wpIn_seq<|wpIn_mono (s.2.2 F o i.seq.1 g W a A) ?_⟩
     rintro e' a' W' ⟨rfl,O,R⟩
     exact⟨J,O,R⟩
    |ret=>
     simp only[eJ]at u
     rw[u]at d
     obtain⟨rfl,rfl,rfl,rfl,rfl⟩:=eJ.inj (e:= .ret) J d
     refine⟨s.1,s.2.1,λF o i g W a A=>wpIn_seq<|wpIn_mono (s.2.2 F o i.seq.1 g W a A) ?_⟩
     rintro e' a' W' ⟨rfl,O,R⟩
     exact⟨J,O,R⟩
  |cond S x y=>
   have d:eJ (match jC dep n S with
    |some p=>(match lB t p with
     |some (.c<|.B b)=>(match b with
      |true=>jD P tt eK f dep n Q x t N k wl
      |false=>jD P tt eK f dep n Q y t N k wl)
     |_=> .no)
    |none=> .no) e t' D k' H:=h
   split at d
   .rename_i p hp;split at d
    .rename_i b hb;have DQ:=mm (m:=N.flatten) hp hb;split at d
     .have s:=ih _ _ _ _ _ _ _ _ _ _ _ _ _ hn q T X d;refine⟨s.1,s.2.1,λF o i g W a A=>?_⟩;have u:bh g (.c<|.B ae) (a.eval S):=dY A _ S _ DQ<|eQ _ S;exact wpIn_cond_split u (λ_=>s.2.2 F o i.cond.1 g W a A)<|λe=>x6
     .have s:=ih _ _ _ _ _ _ _ _ _ _ _ _ _ hn q T X d;refine⟨s.1,s.2.1,λF o i g W a A=>?_⟩;have u:bh g (.c<|.B ah) (a.eval S):=dY A _ S _ DQ<|eQ _ S;exact wpIn_cond_split u (λe=>x6)<|λ_=>s.2.2 F o i.cond.2 g W a A
    .exact(oQ d).elim
   .exact(oQ d).elim
  |block id x=>
   have d:eJ (match jD P tt eK f dep n Q x t N k wl with
    | .iE Z L v M z=>(match jk Z id with|true=> .dQ L v M z|false=> .iE Z L v M z)
    |a7=>a7) e t' D k' H:=h
   rcases eJ.get (r:=jD P tt eK f dep n Q x t N k wl)with u|⟨e1,L,v,M,z,u⟩
   .rw[u]at d;exact(oQ d).elim
   .have s:=ih _ _ _ _ _ _ _ _ _ _ _ _ _ hn q T X u;cases e1 with
    |dQ=>
     simp only[eJ]at u
     rw[u]at d
     obtain⟨rfl,rfl,rfl,rfl,rfl⟩:=eJ.inj (e:= .dQ) J d
     refine⟨s.1,s.2.1,λF o i g W a A=>wpIn_block<|wpIn_mono (s.2.2 F o i.block g W a A) ?_⟩
     rintro e' a' W' ⟨rfl,O,R⟩
     exact⟨J,O,R⟩
    |iE Z=>
     simp only[eJ]at u
     rw[u]at d
     dsimp only at d
     split at d
     next aY=>have aY:Z=id:=mi aY;subst aY;obtain⟨rfl,rfl,rfl,rfl,rfl⟩:=eJ.inj (e:= .dQ) J d;refine⟨s.1,s.2.1,λF o i g W a A=>wpIn_block<|wpIn_mono (s.2.2 F o i.block g W a A) ?_⟩;rintro e' a' W' ⟨rfl,O,R⟩;simp only[Ex.J2,F8,cz];exact⟨j,O,R⟩
     .rename_i aY;have eZ:Z≠id:=by intro e';subst e';rw[Dy]at aY;cases aY
      obtain⟨rfl,rfl,rfl,rfl,rfl⟩:=eJ.inj (e:= .iE Z) J d;refine⟨s.1,s.2.1,λF o i g W a A=>wpIn_block<|wpIn_mono (s.2.2 F o i.block g W a A) ?_⟩;rintro e' a' W' ⟨rfl,O,R⟩;simp only[Ex.J2,F8,eZ,b8];exact⟨j,O,R⟩
    |ret=>
     simp only[eJ]at u
     rw[u]at d
     obtain⟨rfl,rfl,rfl,rfl,rfl⟩:=eJ.inj (e:= .ret) J d
     refine⟨s.1,s.2.1,λF o i g W a A=>wpIn_block<|wpIn_mono (s.2.2 F o i.block g W a A) ?_⟩
     rintro e' a' W' ⟨rfl,O,R⟩
     exact⟨J,O,R⟩
  |loop x=>
   have step:∀I t0 C U K,eJ (jD P tt eK (I+1) dep n Q (.loop x) t0 C U K) e t' D k' H->eJ (match jD P tt eK I dep n Q x t0 C U K with| .dQ L v M z=>jD P tt eK I dep n Q (.loop x) L v M z|a7=>a7) e t' D k' H:=λ_ _ _ _ _ h=>h
   have aps:∀I,I<=f+1->∀t0 C U K,Q<=U->eV dep n t0 U->gh C U->eJ (jD P tt eK I dep n Q (.loop x) t0 C U K) e t' D k' H->Left Q dep n t0 C U K t' D k' H:=by
    intro I;induction I with
    |zero=>intro _ t0 C U K _ _ _ V;exact(oQ V).elim
    |succ I ihf=>
     intro hf t0 C U K oL O2 O3 V
     have d:=step I t0 C U K V
     rcases eJ.get (r:=jD P tt eK I dep n Q x t0 C U K)with u|⟨e1,L,v,M,z,u⟩
     .rw[u]at d;exact(oQ d).elim
     .have s:=Vs I Y _ _ _ _ _ _ _ _ _ _ _ _ _ hn oL O2 O3 u;cases e1 with
      |dQ=>
       simp only[eJ]at u
       rw[u]at d
       exact s.1.trans<|ihf Y L v M z (br oL s.1.le) s.1.eV s.1.gh d
      |iE id=>
       simp only[eJ]at u
       rw[u]at d
       obtain⟨rfl,rfl,rfl,rfl,rfl⟩:=eJ.inj (e:= .iE id) J d
       exact s.1
      |ret=>
       simp only[eJ]at u
       rw[u]at d
       obtain⟨rfl,rfl,rfl,rfl,rfl⟩:=eJ.inj (e:= .ret) J d
       exact s.1
   have hL:=aps (f+1) (aL _) t N k wl q T X h
   refine⟨hL,hL.le,λF o i g W a A=>?_⟩
   refine Vp (λ(y:G×(Tr×Ms)×G×E G) a W=>y.1<=f+1/\Q<=y.2.2.1/\eV dep n y.2.1.1 y.2.2.1/\gh y.2.1.2 y.2.2.1/\eJ (jD P tt eK y.1 dep n Q (.loop x) y.2.1.1 y.2.1.2 y.2.2.1 y.2.2.2) e t' D k' H/\∃g,aR F (·<y.2.2.1) (bA dep n y.2.1.1 y.2.1.2.flatten).kn g W a) (λy=>y.1) (f+1,(t,N),k,wl) ⟨aL _,q,T,X,h,g,A⟩ ?_
   rintro⟨I,⟨t0,C⟩,U,K⟩ a W ⟨hf,oL,O2,O3,V,g,A⟩
   simp only at hf oL O2 O3 V A⊢
   cases I with
   |zero=>exact(oQ V).elim
   |succ I=>
    have d:=step I t0 C U K V
    rcases eJ.get (r:=jD P tt eK I dep n Q x t0 C U K)with u|⟨e1,L,v,M,z,u⟩
    .rw[u]at d;exact(oQ d).elim
    .have s:=Vs I Y _ _ _ _ _ _ _ _ _ _ _ _ _ hn oL O2 O3 u;refine wpIn_mono (s.2.2 F o i.loop g W a A) ?_;rintro e' a' W' ⟨rfl,O,R⟩;cases e1 with
     |dQ=>
      simp only[eJ]at u
      rw[u]at d
      exact⟨(I,(L,v),M,z),⟨by simp only;omega,br oL s.1.le,s.1.eV,s.1.gh,d,O,R⟩,au⟩
     |iE id=>
      simp only[eJ]at u
      rw[u]at d
      obtain⟨rfl,rfl,rfl,rfl,rfl⟩:=eJ.inj (e:= .iE id) J d
      exact⟨J,O,R⟩
     |ret=>
      simp only[eJ]at u
      rw[u]at d
      obtain⟨rfl,rfl,rfl,rfl,rfl⟩:=eJ.inj (e:= .ret) J d
      exact⟨J,O,R⟩
  |region id ops draw=>
   have q6:x8 P (vf P tt eK<|jD P tt eK f):=Vn cK By ih
   have d:eJ (match OE dep n ops.toList draw with
    |some (gs,none)=>(match xW (vf P tt eK<|jD P tt eK f) tt n Q gs t N k wl with
     | .ok L v M z _=> .dQ L v M z
     | .no=> .no)
    |some (gs,ad ps)=>(match zw (vf P tt eK<|jD P tt eK f) tt n Q gs t N k wl []with
     | .ok L v M z fs=>(match GR fs.reverse ps with
      |true=> .dQ L v M z
      |false=> .no)
     | .no=> .no)
    |none=> .no) e t' D k' H:=h
   split at d
   .rename_i gs hc;split at d
    next L v M z ft hrt=>obtain⟨rfl,rfl,rfl,rfl,rfl⟩:=eJ.inj (e:= .dQ) J d;let ⟨fs',iB⟩:=ady hrt [];exact adM lu cK q6 hn hc q T X iB (λl hl=>by cases hl) id
    .exact(oQ d).elim
   .rename_i gs ps hc;split at d
    .rename_i L v M z fs iB;split at d
     next hpk=>obtain⟨rfl,rfl,rfl,rfl,rfl⟩:=eJ.inj (e:= .dQ) J d;exact adM lu cK q6 hn hc q T X iB (λl hl=>by cases hl;exact hpk) id
     .exact(oQ d).elim
    .exact(oQ d).elim
   .exact(oQ d).elim
  |rangeFunc _ _ _ _=>exact(oQ h).elim
  |scope _=>exact(oQ h).elim
  |label _=>exact(oQ h).elim
  |goto _=>exact(oQ h).elim
  |refuse _=>exact(oQ h).elim
end
def HN(s:G)(a:FH)(W:cJ):FH:=λb o=>if b<s then a b o else W.cell? ⟨b,o,none⟩
section
variable{P:bW}{tt:TT}
def Vt{f}{vs}{a7 r'}{A}{k'}(z:CX P f vs [] 0 a7 A k')(hm:cX vs=[])(hr:r'.ak=[])(ha:DG (λd=>o d A) a7 r'=ae):w P f vs r':=by
 refine⟨z.call,hr,?_⟩;intro H W B C i;have D:=xL i;have U:aR {w0:=W,H0:=H,n:=Z vs} (·<0) (St.kn ⟨dT 0 vs,[],0,[]⟩) ⟨H,jP⟩ W (n7 B):=by
  refine⟨by simp[n7,D],J,?_,?_,?_,?_,?_,C,⟨J,J,J,aL _,λ_ _ _=>rfl⟩,cL.refl _,λ_ _ _ _=>rfl,λ_ z=>aF z<|nZ _⟩
  .intro t v O;simp only[St.kn,bY]at O;let ⟨x,p,he⟩:=O;cases he;let ⟨_,u,hu,hr,_⟩:=me vs B 0 i t v p;have q:B[t]? =ad u:=v3;simp only[n7,l7,vR,q,tK];exact hr
  .intro d b k;simp[St.kn,o]at k
  .intro d V b b' R k;simp[St.kn,o]at k
  .intro F x p d G;cases F with
   |m j=>simp[St.kn,o]at p
   |s t=>
    simp only[St.kn,bY]at p
    let ⟨y,Y,he⟩:=p
    subst he
    let ⟨_,_,_,_,h6⟩:=me vs B 0 i t y Y
    have:=h6 d G
    rw[hm]at this
    cases this
  .intro d x p;simp[St.kn,o]at p
 refine(z.spec _ _ W B J D U).mono ?_;rintro e c ⟨v,K,rfl,g⟩;have N:∀b a,b<W.heap.size->K.H b a=H b a:=λb a k=>g.fresh b a k<|λz=>z
 have S:x5 (HN W.heap.size H c) K c (λd=>o d A):=by
  refine⟨?_,?_⟩
  .intro b a u hu;unfold HN;split
   next k=>rw[<-N b a k];exact hu
   .exact g.sub b a u hu
  .intro d I L hl;have p:∃b,∃vs rest:E aT,cO (K.γ d)=ad b/\c.heap[b]? =ad (.cells (vs++rest).toArray I (0,0))/\a6 K L vs/\W.heap.size<=b:=by
    rcases hl with⟨sz,hl⟩|hl
    .let ⟨b,ws,rest,Q,T,X,l,_⟩:=g.cM d (.box I sz L) Df;exact⟨b,ws,rest,Q,T,X,by rcases l with l|l;exact l;exact l.elim⟩
    .let ⟨b,ws,rest,Q,T,X,l,_⟩:=g.cM d (.fz I L) Df;exact⟨b,ws,rest,Q,T,X,by rcases l with l|l;exact l;exact l.elim⟩
   let ⟨b,ws,rest,Q,T,X,M⟩:=p;exact⟨b,ws,rest,Q,λa=>by simp only[HN,Nat.not_lt.2 M,b8],T,X⟩
 have M:=g.dW 0 a7 (by simp[St.kn,o]);have h2:bh K a7 v:=by simpa[n7]using M
 refine⟨v,HN W.heap.size H c,J,ac9 S ha h2,λb a u hu=>S.le b a u<|g.le b a u hu,λb a k=>by simp[HN,k],?_,⟨g.below.os,g.below.tape,g.below.output,g.below.size,λR hk=>g.below.block R hk<|λz=>z⟩⟩;intro b a u hu;unfold HN at hu;split at hu
 next k=>rw[<-N b a k]at hu;exact g.sub b a u hu
 .exact hu
def adP(a:AV):Cr->Bool
 | .ok b ms _ _=>DG (λd=>o d ms.flatten) b a
 |_=>ah
def apw{a:jB->E AV->Ms->aw (E AV×AV)}(m:P.follows .mixedOrders=ae)(g:cE P tt=ae)(d:∀f vs t i n,a f vs t=ad (i,n)->w P f i n) fuel{f}{vs}{p}
  (l:adP p (vf P tt a (jD P tt a fuel) f vs [] 0)=ae) (hm:cX vs=[]) (u:p.ak=[]):w P f vs p:=by
 cases hx:vf P tt a (jD P tt a fuel) f vs [] 0 with
 |ok n t k wl=>
  rw[hx]at l
  have s:=(Vn g d<|Ha m g d fuel).ok hx (λv b x=>by simp[bO]at x)<|λv aY=>AZ
  exact Vt s.1 hm u l
 |_=>rw[hx]at l;cases l
end
def dO.re(a:dO)(W:cJ)(g:Gh)(k:G):dO:={a with w0:=W,H0:=g.H,own:=λb=>a.N b/\∀o:Obj,W.heap[b]? =ad o->o.isCells=ae,k0:=k,γ0:=g.γ}
def aA.isM:aA->Bool
 | .mp _ _ _=>ae
 | .it _ _ _=>ae
 |_=>ah
def gW.O4{N l:G->Prop}{g}{W}{u}{b}(s:∀(x:G)(vs:Array aT)(k:TypeId)(p:G×G),W.heap[x]? =ad (.cells vs k p)->N x->l x)(v:∀(x:G),b.isM=ae->N x->l x)(i:gW N g W u b):gW l g W u b:=by
 cases b with
 |box k sz cs=>
  let ⟨b,vs,rest,e,hh,hr,a,d⟩:=i
  exact⟨b,vs,rest,e,hh,hr,s _ _ _ _ hh a,d⟩
 |vec k T xs=>
  rcases i with i|⟨b,cap,vs,e,hh,z,h2,t,A,a,d⟩
  .exact .inl i
  .exact .inr ⟨b,cap,vs,e,hh,z,h2,t,A,s _ _ _ _ hh a,d⟩
 |eB f first caps=>exact i
 |fz k cs=>
  let ⟨b,vs,rest,e,hh,hr,a,d⟩:=i
  exact⟨b,vs,rest,e,hh,hr,s _ _ _ _ hh a,d⟩
 |mp C D xs=>
  let ⟨r,es,e,hh,hr,a,d⟩:=i
  exact⟨r,es,e,hh,hr,v _ J a,d⟩
 |it m n seen=>
  let ⟨r,b,e,B,hh,a,d⟩:=i
  exact⟨r,b,e,B,hh,v _ J a,d⟩
def Kz(a:Kn):Prop:=∀d b,b.isM=ae->a (.m d)≠ad (.b b)
section
variable{F:dO}{k k':G}{σ σ':Kn}{g g':Gh}{W W':cJ}{a a':Act}
def aR.re(d:aR F (·<k) σ g W a)(f:Kz σ):aR (F.re W g k) (·<k) σ g W a:=by refine⟨d.size,d.defers,d.dW,λi b m=>(d.cM i b m).O4 ?_<|λ_ n=>(f i b n m).elim,d.inj,d.ak,d.dX,d.sub,⟨J,J,J,aL _,λ_ _ _=>rfl⟩,cL.refl _,λ_ _ _ _=>rfl,λi l=>⟨l,J⟩⟩;intro x vs E p s t;refine .inr ⟨t,λo ho=>?_⟩;rw[s]at ho;cases ho;rfl
def aR.un(f:aR F (·<k) σ g W a)(d:aR (F.re W g k) (·<k') σ' g' W' a'):
  aR F (·<k') σ' g' W' a'/\KeepsOthers W W'/\gN (·<k) g g':=by
 refine⟨⟨d.size,d.defers,d.dW,λs b v=>(d.cM s b v).O4 ?_ ?_,d.inj,d.ak,d.dX,d.sub,?_,f.le.trans d.le,?_,?_⟩,?_,d.le,λs n=>(d.fT s n).2⟩
 .intro x vs E p B i;rcases i with i|i
  .exact .inl<|br f.below.size i
  .exact i.1
 .intro x _ i;rcases i with i|i
  .exact .inl<|br f.below.size i
  .exact i.1
 .refine⟨d.below.os.trans f.below.os,d.below.tape.trans f.below.tape,d.below.output.trans f.below.output,br f.below.size d.below.size,λj t l=>?_⟩;rw[<-f.below.block j t l];refine d.below.block j (gK t f.below.size)<|λu=>?_;rcases u.1 with m|m
  .omega
  .exact l m
 .intro b o v l;rw[<-f.fresh b o v l];refine d.fresh b o (gK v f.below.size)<|λu=>?_;rcases u.1 with m|m
  .omega
  .exact l m
 .intro s n;have m:=f.fT s n;have z:=d.fT s m.1;exact⟨z.1,z.2.trans m.2⟩
 .refine⟨d.below.size,λj o t A=>?_⟩;rw[<-t];refine d.below.block j (fY.1 t).1<|λu=>?_;rw[u.2 o t]at A;cases A
def Vu:Obj->Bool
 | .cells .. =>ae
 | .map .. =>ae
 | .mapIter .. =>ae
 |_=>ah
def apx{b:Obj}(d:b.isCells=ae):Vu b=ae:=by cases b<;>first|rfl|cases d
structure WX(B:G)(W W':cJ):Prop where
 os:W'.os=W.os
 tape:W'.tape=W.tape
 output:W'.output=W.output
 size:W.heap.size<=W'.heap.size
 same:∀(k:G)(o:Obj),W.heap[k]? =ad o->Vu o=ae\/k<B->W'.heap[k]? =ad o
def aR.wx{l:G->Prop}(d:aR F l σ g W a)(p:WX F.w0.heap.size W W'):aR F l σ g W' a:=by
 refine⟨d.size,d.defers,d.dW,λC b D=>?_,d.inj,d.ak,d.dX,?_,⟨p.os.trans d.below.os,p.tape.trans d.below.tape,p.output.trans d.below.output,br d.below.size p.size,λj x z=>?_⟩,d.le,d.fresh,d.fT⟩
 .have i:=d.cM C b D;cases b with
  |box E sz cs=>
   let ⟨b,vs,rest,e,hh,i,s,t⟩:=i
   exact⟨b,vs,rest,e,p.same _ _ hh<|.inl J,i,s,t⟩
  |vec E T xs=>
   rcases i with d|⟨b,cap,vs,e,hh,H,h2,A,K,s,t⟩
   .exact .inl d
   .exact .inr ⟨b,cap,vs,e,p.same _ _ hh<|.inl J,H,h2,A,K,s,t⟩
  |eB f first caps=>exact i
  |fz E cs=>
   let ⟨b,vs,rest,e,hh,i,s,t⟩:=i
   exact⟨b,vs,rest,e,p.same _ _ hh<|.inl J,i,s,t⟩
  |mp c q xs=>
   let ⟨r,es,e,hh,i,s,t⟩:=i
   exact⟨r,es,e,p.same _ _ hh<|.inl J,i,s,t⟩
  |it m n seen=>
   let ⟨r,b,e,N,hh,s,t⟩:=i
   exact⟨r,b,e,N,p.same _ _ hh<|.inl J,s,t⟩
 .intro b o v P;have B:=d.sub b o v P;let ⟨w,ho,Q⟩:=cells_of_cell B;rw[<-B];exact World.cell?_of_block<|(p.same _ _ ho<|.inl<|apx Q).trans ho.symm
 .have X:j<W.heap.size:=gK x d.below.size;have u:W.heap[j]? =ad W.heap[j]:=TY X;rw[p.same j _ u (.inr x),<-d.below.block j x z,u]
def WX.refl B W:WX B W W:=⟨J,J,J,aL _,λ_ _ h _=>h⟩
def WX.trans{B}{A C D}(b:WX B A C)(d:WX B C D):WX B A D:=
 ⟨d.os.trans b.os,d.tape.trans b.tape,d.output.trans b.output,br b.size d.size,λk o i f=>d.same k o (b.same k o i f) f⟩
def WX.alloc B W(b:Obj):WX B W (W.alloc b):=
 ⟨J,J,J,au,λk _ d _=>(Below.heap_alloc W b k (fY.1 d).1).trans d⟩
def WX.putObj{B}{W}{l}{i:Obj}(m:Obj)(n:W.heap[l]? =ad i)(p:Vu i=ah)(hB:B<=l):WX B W (W.putObj l m):=
 ⟨J,J,J,au,λk s d b=>by
  have f:k≠l:=by
   intro e;subst e;rw[n]at d;cases d;rcases b with b|b
   .rw[p]at b;cases b
   .omega
  rw[DR f];exact d⟩
def Gh.new(g:Gh)(k:G)(u:aT):Gh:=⟨g.H,λb=>if b=k then u else g.γ b⟩
def aR.apy(b:aR F (·<k) σ g W a) u:aR F (·<k+1) σ (g.new k u) W a:=by
 have i:=b.step (chg:=λ_=>False) (g':=g.new k u) (W':=W) (a':=a) ⟨⟨cL.refl _,λf d=>by have:f≠k:=Nat.ne_of_lt d;simp[Gh.new,this]⟩,λ_ _ _=>rfl,b.sub,aL _,λ_ _ _=>rfl,J,J,J⟩ [] k (Hb k) J b.defers (λ_ _=>rfl) (λ_ b=>b.elim) (λ_ _ b=>by simp[aD]at b) (λ_ _ b=>by simp[aD]at b) (λ_ _ b=>by simp[aD]at b) (λ_ _ b=>by simp[aD]at b);refine i.weaken ?_;rintro f (d|rfl)
 .exact OU d
 .exact dV _
end
section
variable{F:dO}{k k':G}{g g':Gh}{W W':cJ}{a a':Act}{dep n adS n':G}{t t':Tr}{m m':Mem}{ds ds':E KA}{rd rd':aw G}
def aR.swap{B}(p:aR {F with n:=B,ds:=ds,rd:=rd} (·<k) (bA dep n t m).kn g W a)(f:aR {F with n:=n',ds:=ds',rd:=rd'} (·<k') (bA adS n' t' m').kn g' W' a')(D:k<=k')(H:gN (·<k) g g'):
  aR {F with n:=B,ds:=ds,rd:=rd} (·<k') (bA dep n t m').kn g' W' a:=by
 have u:∀d x,(bA dep n t m').kn (.m d)=ad x->(bA adS n' t' m').kn (.m d)=ad x:=λd x l=>l
 refine⟨p.size,p.defers,λs v C=>(bh.mono H (λd i=>p.ak (.s s) (.v v) C d i)<|p.dW s v C),λd b K=>f.cM d b<|u _ _ K,λd z b N P Q T X c=>f.inj d z b N P (u _ _ Q) (u _ _ T) X c,λA x l d i=>?_,λd x l=>f.dX d x<|u _ _ l,f.sub,f.below,f.le,f.fresh,f.fT⟩
 .cases A with
  |s j=>exact gK (p.ak (.s j) x l d i) D
  |m j=>exact f.ak (.m j) x (u _ _ l) d i
def aR.defer{b:G->Prop}{f}{i}(d:aR {F with n:=i,ds:=ds,rd:=rd} b f g W a) ds' rd':aR {F with n:=i,ds:=ds',rd:=rd'} b f g W {a with defers:=ds'}:=
 ⟨d.size,J,d.dW,d.cM,d.inj,d.ak,d.dX,d.sub,d.below,d.le,d.fresh,d.fT⟩
def aR.adT{z}(f:aR {F with n:=z,ds:=ds,rd:=rd} (·<k) (bA dep n t m).kn g W a)(hn:n<=4^dep)(B:z=n){d}(T:d<n){v}{u}(hv:bh g v u)(D:∀l∈v.ak,l<k):
  aR {F with n:=z,ds:=ds,rd:=rd} (·<k) (bA dep n (kY (dm dep d) v t) m).kn g W {a with tmps:=a.tmps.setIfInBounds d u}:=by
 subst B
 have A:∀s x,(bA dep z (kY (dm dep d) v t) m).kn (.s s)=ad (.v x)->(s=d/\x=v)\/(s≠d/\(bA dep z t m).kn (.s s)=ad (.v x)):=by
  intro s x i;rw[GL dep z t m d v hn T]at i;by_cases e:s=d
  .subst e;simp[bw,aD]at i;exact .inl ⟨J,i.symm⟩
  .have H:d≠s:=λf=>e f.symm
   simp[bw,aD,H]at i;exact .inr ⟨e,i⟩
 have X:∀l,(bA dep z (kY (dm dep d) v t) m).kn (.m l)=(bA dep z t m).kn (.m l):=λ_=>rfl
 refine⟨by simpa using f.size,f.defers,λs x c=>?_,λl b o=>f.cM l b o,λl K b q r w E G I=>f.inj l K b q r w E G I,λN x i l p=>?_,λl x i=>f.dX l x i,f.sub,f.below,f.le,f.fresh,f.fT⟩
 .rcases A s x c with⟨rfl,rfl⟩|⟨P,i⟩
  .have Q:s<a.tmps.size:=by rw[f.size];exact T
   simpa[Q]using hv
  .have H:d≠s:=λf=>P f.symm
   have:=f.dW s x i;simpa[l0 H]using this
 .cases N with
  |m j=>exact f.ak (.m j) x i l p
  |s j=>
   cases x with
   |b _=>simp[bA,St.kn]at i
   |v y=>
    rcases A j y i with⟨_,rfl⟩|⟨_,i⟩
    .exact D l p
    .exact f.ak (.s j) _ i l p
end
section
variable{P:bW}{F:dO}{n:G}{c:fJ}{st st':St}{k k':G}{e:Ex}{g:Gh}{W:cJ}{a:Act}
def J3.wj(s:J3 P n c st k e st' k')(t:F.n=n)(d:nB F.rd c)(l:aR F (·<k) st.kn g W a)(f:Kz st.kn):
  c.wpIn (dP F.rd) 0 P (λm p i=>m=e.J2/\∃b,aR F (·<k') st'.kn b i p/\KeepsOthers W i/\gN (·<k) g b) a W:=by
 refine wpIn_mono (s.2 (F.re W g k) t d g W a<|l.re f) ?_
 rintro m p i ⟨rfl,b,u⟩
 exact⟨J,b,l.un u⟩
end
inductive jE(S:Type) where
 |no
 |dQ (s:S)
 |iE (a:G) (s:S)
 |ret (s:S)
def jE.post{f:Type}(d:f->Act->cJ->Prop):jE f->Exit->Act->cJ->Prop
 | .dQ s,b,a,W=>b= .normal/\d s a W
 | .iE id s,b,a,W=>b= .exit id/\d s a W
 | .ret s,b,a,W=>b= .ret/\d s a W
 | .no,_,_,_=>False
section
variable{S:Type}(leaf:fJ->S->jE S)(ev:fE->S->aw Bool)
def Vv(a:fJ->S->jE S)(x b:fJ)(s:S):jE S:=match a x s with
 | .dQ s1=>a b s1
 |r=>r
def Vw(a:fJ->S->jE S)(d:fE)(x f:fJ)(s:S):jE S:=match ev d s with
 |some b=>(match b with
  |true=>a x s
  |false=>a f s)
 |none=> .no
def Vx(b:fJ->S->jE S)(d:G)(x:fJ)(s:S):jE S:=match b x s with
 | .iE a s1=>(match jk a d with
  |true=> .dQ s1
  |false=> .iE a s1)
 |r=>r
def Vy(a:fJ->S->jE S)(x:fJ)(s:S):jE S:=match a x s with
 | .dQ s1=>a (.loop x) s1
 |r=>r
def apz(a:fJ->S->jE S):fJ->S->jE S
 | .skip=> .dQ
 | .label _=> .dQ
 | .exit id=> .iE id
 | .ret=> .ret
 | .seq x b=>Vv a x b
 | .cond d x b=>Vw ev a d x b
 | .block id x=>Vx a id x
 | .scope x=>a x
 | .loop x=>Vy a x
 |d=>leaf d
def gen(a:G):fJ->S->jE S:=Nat.rec (motive:=λ_=>fJ->S->jE S) (λ_ _=> .no) (λ_ b=>apz leaf ev b) a
end
section
variable{P:bW}{Fe:Fence}{n:G}{Q:Exit->Act->cJ->Prop}{a:Act}{w:cJ}
def apA{i}(A:i.wpIn Fe n P (Exit.noGoto Q) a w):(Code.scope i).wpIn Fe n P Q a w:=by
 intro b k m t u v;have p:step P (lone (b.atR a<|.code (.scope i)::k) m w)= .next (lone (b.atR a<|.code i:: .inScope i::k) m w):=step_lone_go (by simp[Go.stepG,apB,Frame.atR])
 have s2:∀a w,step P (lone (b.atR a<|.inScope i::k) m w)= .next (lone (b.atR a k) m w):=λa w=>step_lone_go (by simp[Go.stepG,apB,Frame.atR])
 have s:(lone (b.atR a<|.code (.scope i)::k) m w).fenced P Fe:=fenced_calm u v J;let ⟨e,f,g,hq,d⟩:=A b (.inScope i::k) m t u v;cases e with
 |normal=>exact⟨.normal,f,g,hq,.head s p<|StepsIn.trans d<|.one (fenced_calm u v J)<|s2 _ _⟩
 |exit id=>
  refine⟨.exit id,f,g,hq,λB x=> .head s p (d.1 B<|by simp[exitTo,x]),λz x=>?_⟩
  let ⟨k₁,C,h2⟩:=d.2 z (by simp[exitTo,x])
  exact⟨k₁,C,.head s p h2⟩
 |goto l=>exact hq.elim
 |ret=>exact⟨_,f,g,hq,.of_steps (.one s p) d⟩
 |panic ch=>exact⟨_,f,g,hq,.of_steps (.one s p) d⟩
 |outgrown=>exact⟨_,f,g,hq,.of_steps (.one s p) d⟩
end
section
variable{P:bW}{Fe:Fence}{S:Type}{leaf:fJ->S->jE S}{ev:fE->S->aw Bool}{I:S->Act->cJ->Prop}
def adU(k:∀p s d,leaf p s=d->d≠ .no->∀a W,I s a W->p.wpIn Fe 0 P (d.post I) a W)
  (Q:∀p s b,ev p s=ad b->∀a W,I s a W->a.eval p= .bool b):
  ∀(l:G)(p:fJ)(s:S)(d:jE S),gen leaf ev l p s=d->d≠ .no->∀a W,I s a W->p.wpIn Fe 0 P (d.post I) a W:=by
 intro l
 induction l using Ky with
 |_ l D=>
 cases l with
 |zero=>intro p s d h m;exact aF h.symm m
 |succ f=>
  have u:=D f Y
  intro p s d h m a W g
  cases p with
  |skip=>have h:jE.dQ s=d:=h;subst h;exact wpIn_skip ⟨J,g⟩
  |label _=>have h:jE.dQ s=d:=h;subst h;exact wpIn_label ⟨J,g⟩
  |exit id=>have h:jE.iE id s=d:=h;subst h;exact wpIn_exit ⟨J,g⟩
  |ret=>have h:jE.ret s=d:=h;subst h;exact wpIn_ret ⟨J,g⟩
  |seq x y=>
   have h:Vv (gen leaf ev f) x y s=d:=h
   unfold Vv at h
   refine wpIn_seq ?_
   cases hx:gen leaf ev f x s with
   |no=>rw[hx]at h;exact aF h.symm m
   |dQ s1=>
    rw[hx]at h
    refine wpIn_mono (u x s _ hx au a W g) ?_
    rintro e v z ⟨rfl,i⟩
    exact u y s1 d h m v z i
   |iE id s1=>
    rw[hx]at h
    subst h
    refine wpIn_mono (u x s _ hx au a W g) ?_
    rintro e v z ⟨rfl,i⟩
    exact⟨J,i⟩
   |ret s1=>
    rw[hx]at h
    subst h
    refine wpIn_mono (u x s _ hx au a W g) ?_
    rintro e v z ⟨rfl,i⟩
    exact⟨J,i⟩
  |cond A x y=>
   have h:Vw ev (gen leaf ev f) A x y s=d:=h
   unfold Vw at h
   cases hc:ev A s with
   |none=>rw[hc]at h;exact aF h.symm m
   |some b=>
    rw[hc]at h
    have X:=Q A s b hc a W g
    cases b with
    |true=>exact wpIn_cond_split X (λ_=>u x s d h m a W g)<|λe=>x6
    |false=>exact wpIn_cond_split X (λe=>x6)<|λ_=>u y s d h m a W g
  |block id x=>
   have h:Vx (gen leaf ev f) id x s=d:=h
   unfold Vx at h
   refine wpIn_block ?_
   cases hx:gen leaf ev f x s with
   |no=>rw[hx]at h;exact aF h.symm m
   |dQ s1=>
    rw[hx]at h
    subst h
    refine wpIn_mono (u x s _ hx au a W g) ?_
    rintro e v z ⟨rfl,i⟩
    exact⟨J,i⟩
   |iE H s1=>
    rw[hx]at h
    dsimp only at h
    refine wpIn_mono (u x s _ hx au a W g) ?_
    rintro e v z ⟨rfl,i⟩
    cases t:jk H id with
    |true=>
     rw[t]at h
     subst h
     have:=mi t
     subst this
     simp[F8,cz]
     exact⟨J,i⟩
    |false=>
     rw[t]at h
     subst h
     have T:H≠id:=by intro j;subst j;rw[Dy]at t;cases t
     simp[F8,T,b8]
     exact⟨J,i⟩
   |ret s1=>
    rw[hx]at h
    subst h
    refine wpIn_mono (u x s _ hx au a W g) ?_
    rintro e v z ⟨rfl,i⟩
    exact⟨J,i⟩
  |scope x=>
   have h:gen leaf ev f x s=d:=h
   refine apA<|wpIn_mono (u x s d h m a W g) ?_
   intro e v z N
   cases d with
   |no=>exact N.elim
   |dQ s1=>obtain⟨rfl,i⟩:=N;exact⟨J,i⟩
   |iE id s1=>obtain⟨rfl,i⟩:=N;exact⟨J,i⟩
   |ret s1=>obtain⟨rfl,i⟩:=N;exact⟨J,i⟩
  |loop x=>
   refine Vp (λ(y:G×S) a W=>y.1<=f+1/\gen leaf ev y.1 (.loop x) y.2=d/\I y.2 a W) (λy=>y.1) (f+1,s) ⟨aL _,h,g⟩ ?_
   rintro⟨C,K⟩ a W ⟨o,n,g⟩
   simp only at o n g⊢
   cases C with
   |zero=>exact aF n.symm m
   |succ C=>
    have n:Vy (gen leaf ev C) x K=d:=n
    unfold Vy at n
    have B:=D C Y
    cases hx:gen leaf ev C x K with
    |no=>rw[hx]at n;exact aF n.symm m
    |dQ s1=>
     rw[hx]at n
     refine wpIn_mono (B x K _ hx au a W g) ?_
     rintro e v z ⟨rfl,i⟩
     exact⟨(C,s1),⟨by simp only;omega,n,i⟩,au⟩
    |iE id s1=>
     rw[hx]at n
     subst n
     refine wpIn_mono (B x K _ hx au a W g) ?_
     rintro e v z ⟨rfl,i⟩
     exact⟨J,i⟩
    |ret s1=>
     rw[hx]at n
     subst n
     refine wpIn_mono (B x K _ hx au a W g) ?_
     rintro e v z ⟨rfl,i⟩
     exact⟨J,i⟩
  |region id ops draw=>exact k _ s d h m a W g
  |rangeFunc _ _ _ _=>exact k _ s d h m a W g
  |goto _=>exact k _ s d h m a W g
  |refuse _=>exact k _ s d h m a W g
end
section
variable{P:bW}{tt:TT}{eK:jB->E AV->Ms->aw (E AV×AV)}
def Vz(T:cE P tt=ae){l:ob}(s:x8 P l){dep n:G}(hn:n<=4^dep){ops:Array a8}:∀(os:E a8)(i:G){gs:E GI}{t:Tr}{u:Ms}{k:G}{D:E G}{v:Tr}{b:Ms}{m:G}{d:E G}{f:Ft},
  xW l tt n 0 gs t u k D= .ok v b m d f->xX dep n ops.toList os=ad gs->(∀H aG,os[H]? =ad aG->ops[i+H]? =ad aG)->eV dep n t k->gh u k->
  k<=m/\eV dep n v m/\gh b m/\∀(p:dO),p.n=n->xx p.rd ops->∀(Q:Exit->Act->cJ->Prop)(rest:E G) g W a,aR p (·<k) (bA dep n t u.flatten).kn g W a->
   (∀g' W' a',aR p (·<m) (bA dep n v b.flatten).kn g' W' a'->wpOpsIn (dP p.rd) 0 P ops Q rest a' W')->wpOpsIn (dP p.rd) 0 P ops Q (KB i (Z os)++rest) a W
 |[],i,gs,t,u,k,D,v,b,m,d,f,N,hc,_,z,A=>by simp[xX]at hc;subst hc;have h':Rs.ok t u k D .n= .ok v b m d f:=N;simp[Rs.ok.injEq]at h';obtain⟨rfl,rfl,rfl,rfl,rfl⟩:=h';exact⟨aL _,z,A,λp X B Q rest g W a c e=>e g W a c⟩
 |aG::os,i,gs,t,u,k,D,v,b,m,d,f,N,hc,x,z,A=>by
  simp[xX]at hc;split at hc
  .rename_i I K R q;cases hc;have S:xW l tt n 0 (I::K) t u k D=match xV l tt n 0 I t u k D with| .ok v b m d _=>xW l tt n 0 K v b m d| .no=> .no:=rfl
   rw[S]at N;split at N
   .rename_i t1 U k1 V f1 hs;have ho:ops[i]? =ad aG:=by have:=x 0 aG J;simpa using this
    let ⟨⟨ks,⟨rd,wr,r,w,y,hle,_,_⟩,_,L⟩,_⟩:=adx T s (bg _) hn ho R z A hs;let ⟨M,O,h3,h4⟩:=Vz T s hn os (i+1) N q (λH o' hj=>by have:=x (H+1) o' qh;rwa[(Y:i+(H+1)=i+1+H)]at this) L.eV L.gh;refine⟨br hle M,O,h3,λp X B Q rest g W a c e=>?_⟩;rw[jg,FB,mY,wpOpsIn_cons];refine M6 (B i)<|r p X _ (·<k) _ g W a _ (λid M O=>Y) c w<|λg' W' a' h'=>?_;rw[<-y]at h';exact h4 p X B Q rest g' W' a' (h'.weaken<|λid C=>by rcases C with C|C<;>omega) e
   .cases N
  .cases hc
def q9(dep:G):E G->E AV->Tr->Tr
 |p::ps,v::vs,t=>q9 dep ps vs<|kY (dm dep p) v t
 |_,_,t=>t
def tS:E G->E aT->Array aT->Array aT
 |p::ps,u::us,a=>tS ps us<|a.setIfInBounds p u
 |_,_,a=>a
def adV:∀(ps:E G)(b:E aT)(a:Array aT),(ps.zip b).foldl (λd(t,a)=>d.setIfInBounds t a) a=tS ps b a
 |[],b,a=>by simp[tS]
 |p::ps,[],a=>by simp[tS]
 |p::ps,u::b,a=>by simp[List.zip_cons_cons,Ns,tS];exact adV ps b<|a.setIfInBounds p u
def apC(ps:E G)(d:E aT)(a:Array aT):(ps.toArray.zip d.toArray).foldl (λb(t,a)=>b.setIfInBounds t a) a=tS ps d a:=by rw[List.zip_toArray,<-adV];simp
def O5(dep:G)(t:Tr):E G->aw (E AV)
 |[]=>ad []
 |x::xs=>match kI (dm dep x) t,O5 dep t xs with
  |some v,ad vs=>ad<|v::vs
  |_,_=>none
def eV.q9{dep n k:G}(f:n<=4^dep):∀{ps:E G}{vs:E AV}{t:Tr},eV dep n t k->(∀p∈ps,p<n)->(∀b∈cX vs,b<k)->eV dep n (q9 dep ps vs t) k
 |[],_,_,d,_,_=>by simpa[El.q9]using d
 |_::_,[],_,d,_,_=>by simpa[El.q9]using d
 |p::ps,v::vs,t,d,hp,hv=>eV.q9 f (ps:=ps) (vs:=vs) (d.set f (hp p au)<|λb a=>hv b<|eT _ a) (λg i=>hp g<|ls _ i)<|λb a=>hv b<|gO _ a
def aR.q9{x:dO}{s dep n k:G}{ds:E KA}{rd:aw G}{m:Mem}{g:Gh}{W:cJ}(z:n<=4^dep)(d:s=n):∀{ps:E G}{vs:E AV}{us:E aT}{t:Tr}{a:Act},aR {x with n:=s,ds:=ds,rd:=rd} (·<k) (bA dep n t m).kn g W a->(∀p∈ps,p<n)->fV g vs us->(∀f∈cX vs,f<k)->
  aR {x with n:=s,ds:=ds,rd:=rd} (·<k) (bA dep n (q9 dep ps vs t) m).kn g W {a with tmps:=tS ps us a.tmps}
 |[],_,_,_,_,i,_,_,_=>by simpa[El.q9,tS]using i
 |_::_,[],us,_,_,i,_,l,_=>by have l:us=[]:=l;subst l;simpa[El.q9,tS]using i
 |p::ps,v::vs,us,t,a,i,hp,l,hv=>by obtain⟨u,r,rfl,A,B⟩:=l;exact aR.q9 z d (ps:=ps) (vs:=vs) (us:=r) (i.adT z d (hp p au) A<|λf b=>hv f<|eT _ b) (λq C=>hp q<|ls _ C) B<|λf b=>hv f<|gO _ b
def kh(fn:jB)(tmps:Array aT)(p:E G)(a d:fJ)(D:G)(b:aw fJ):Loop:=
 {state:=if b.isNone then .ready else .done,pending:=b,fn:=fn,tmps:=tmps,params:=⟨p⟩,assign:=a,body:=d,defers:=D}
structure SY where
 t:Tr
 ms:Ms
 k:G
 pd:aw fJ
def Hc(a:Ms):Bool:=a.all λm=>m.all λe=>match e.2 with
 | .mp _ _ _=>ah
 | .it _ _ _=>ah
 |_=>ae
def ya{d:Type}{f:G}{b:d}:∀{m:E (G×d)},o f m=ad b->(f,b)∈m
 |[],a=>by cases a
 | (i,x)::m,a=>by
  simp[o]at a;split at a
  next g=>cases a;subst g;exact CS
  .exact ls _<|ya a
def Hd{a}(f:Hc a=ae) dep n t:Kz (bA dep n t a.flatten).kn:=by
 intro s y g e;rw[GJ]at e;simp only[bY,Info.b.injEq]at e;obtain⟨b,i,rfl⟩:=e;have k:=ya i;obtain⟨m,l,p⟩:=List.mem_flatten.1 k;have d:=nY.1 (nY.1 f m l) _ p;cases b with
 |mp u v xs=>cases d
 |it m n seen=>cases d
 |_=>cases g
def He(a:Ms)(b:Rc):Rc:=match Hc a with
 |true=>b
 |false=> .no
def Hf{d}{f b:Rc}(a:He d f=b)(g:b≠ .no):Hc d=ae/\f=b:=by
 unfold He at a;split at a
 next e=>exact⟨e,a⟩
 .exact aF a.symm g
def O6(a:Ms)(b:Rs):Rs:=match Hc a with
 |true=>b
 |false=> .no
def adW{d}{f b:Rs}(a:O6 d f=b)(g:b≠ .no):Hc d=ae/\f=b:=by
 unfold O6 at a;split at a
 next e=>exact⟨e,a⟩
 .exact aF a.symm g
def O7(P:bW)(tt:TT)(eK:jB->E AV->Ms->aw (E AV×AV))(i a l:G)(n:Tr)(p:E G)(g s:fJ)(v:E AV)(m:Ms)(k:G):aw (aw fJ×Ms×G):=
 match He m (jD P tt eK i a l 0 g (q9 a p v n) m k [])with
 | .dQ t1 d t _=>(match He d (jD P tt eK i a l 0 s t1 d t [])with
  | .dQ _ b f _=>ad (none,b,f)
  | .iE id _ b f _=>ad (ad<|.exit id,b,f)
  | .ret _ b f _=>ad (ad .ret,b,f)
  | .no=>none)
 |_=>none
def O8:E fE->aw (E G)
 |[]=>ad []
 | .tmp x::a=>(match O8 a with
  |some l=>ad<|x::l
  |none=>none)
 |_::_=>none
def adX:∀{l:E fE}{xs:E G},O8 l=ad xs->l=xs.map adY
 |[],xs,a=>by cases a;rfl
 | .tmp x::d,xs,a=>by
  simp[O8]at a;split at a
  next l b=>cases a;simp[adX b]
  .cases a
 | .const _::_,_,a=>by cases a
 | .func _::_,_,a=>by cases a
 | .global _::_,_,a=>by cases a
def O9(a:a8):aw (G×G×E G):=match a.dst,a.op with
 |some d,.call ⟨.value<|.tmp j,⟨args⟩,_⟩=>(match O8 args with
  |some xs=>ad (d,j,xs)
  |none=>none)
 |_,_=>none
def KC:E a8->G->E a8->aw (G×a8×(G×G×E G))
 |_,_,[]=>none
 |all,i,a::os=>match O9 a with
  |some b=>ad (i,a,b)
  |none=>KC all (i+1) os
def gdY(dep n:G)(a:E a8)(f:a8)(t:Tr):Bool:=match f.guard with
 |none=>ae
 |some (j,want)=>(match tG a j with
  |some d=>(match dZ d n,kI (dm dep d) t with
   |true,ad (.c<|.B b)=>b==want
   |_,_=>ah)
  |none=>ah)
def ad0(P:bW)(tt:TT)(eK:jB->E AV->Ms->aw (E AV×AV))(p dep n kt:G)(u:G)(f:E AV->Ms->G->aw (aw fJ×Ms×G))(a:Array a8)(s:SY):jE SY:=
 match KC a.toList 0 a.toList with
 |some (i,o,(d,j,x))=>(match xX dep n a.toList (r i a.toList),xX dep n a.toList (az (i+1) a.toList)with
  |some z,ad A=>(match O6 s.ms (xW (vf P tt eK<|jD P tt eK p) tt n 0 z s.t s.ms s.k [])with
   | .ok t1 g C _ _=>(match gdY dep n a.toList o t1&&dZ d n&&dZ j n&&x.all (λy=>dZ y n)&&jk (Z x) u with
    |true=>(match kI (dm dep j) t1,O5 dep t1 x with
     |some (.c<|.X l),ad v=>(match jk l kt with
      |true=>(match f v g C with
       |some (pd,b,D)=>(match O6 b (xW (vf P tt eK<|jD P tt eK p) tt n 0 A (kY (dm dep d) (.c<|.B pd.isNone) t1) b D [])with
        | .ok t3 m H _ _=> .dQ ⟨t3,m,H,pd⟩
        | .no=> .no)
       |none=> .no)
      |false=> .no)
     |_,_=> .no)
    |false=> .no)
   | .no=> .no)
  |_,_=> .no)
 |none=> .no
def VA(P:bW)(tt:TT)(eK:jB->E AV->Ms->aw (E AV×AV))(d dep n kt:G)(f:G)(a:E AV->Ms->G->aw (aw fJ×Ms×G))(g:fJ)(s:SY):jE SY:=match g with
 | .region id ops draw=>(match He s.ms (jD P tt eK d dep n 0 (.region id ops draw) s.t s.ms s.k [])with
  | .dQ i b l _=> .dQ ⟨i,b,l,s.pd⟩
  |_=>(match draw with
   |false=>(match s.pd with
    |none=>ad0 P tt eK d dep n kt f a ops s
    |some _=> .no)
   |true=> .no))
 |_=> .no
def VB(dep n:G)(a:fE)(s:SY):aw Bool:=match jC dep n a with
 |some p=>(match lB s.t p with
  |some (.c<|.B b)=>ad b
  |_=>none)
 |none=>none
def IY(i:dO)(dep n b d:G)(m:Tr)(p:Act)(f:E KA)(kt l:G)(rc:aw fJ->Loop)(mk:E G)(s:SY)(a:Act)(W:cJ):Prop:=
 ∃g,eV dep n s.t s.k/\gh s.ms s.k/\eV b d m s.k/\aR {i with n:=n,ds:=[],rd:=none} (·<s.k) (bA dep n s.t s.ms.flatten).kn g W a/\
  aR {i with n:=d,ds:=f,rd:=none} (·<s.k) (bA b d m s.ms.flatten).kn g W p/\kt<s.k/\g.γ kt= .func (.yield l) #[] #[]/\W.heap[l]? =ad (.loop<|rc s.pd)/\∀D∈mk,W.heap[D]? =ad (.deferred<|ad [])
def ad1{all:E a8}:∀{g:E a8}{i a:G}{d:a8}{f:G×G×E G},KC all i g=ad (a,d,f)->O9 d=ad f/\i<=a/\g[a-i]? =ad d
 |[],i,a,d,f,b=>by simp[KC]at b
 |x::g,i,a,d,f,b=>by
  simp[KC]at b;split at b
  next n k=>simp at b;obtain⟨rfl,rfl,rfl⟩:=b;exact⟨k,aL _,au⟩
  .let ⟨l,h2,m⟩:=ad1 b;refine⟨l,Y,?_⟩;rw[(Y:a-i=(a-(i+1))+1)];simpa using m
def apD{f}{d k}{x}(a:O9 f=ad (d,k,x)):f.dst=ad d/\∃b,f.op= .call ⟨.value<|.tmp k,⟨x.map adY⟩,b⟩:=by
 unfold O9 at a;split at a
 .rename_i m n args b l g;split at a
  next xs i=>simp at a;obtain⟨rfl,rfl,rfl⟩:=a;exact⟨l,b,by rw[g,<-adX i]⟩
  .cases a
 .cases a
def O'{dep n}{t:Tr}{m:Mem}{a}{v}(b:a<n)(d:kI (dm dep a) t=ad v):(bA dep n t m).kn (.s a)=ad (.v v):=by rw[GJ];simp[b,d]
variable{F:dO}{dep n qo n0:G}{t0:Tr}{a0:Act}{ds0:E KA}{kt l:G}{fnid:jB}{p:E G}{D:G}{fb bd:fJ}{mk:E G}
def apE(lu:P.follows .mixedOrders=ae)(cK:cE P tt=ae)(B:∀f vs N oc a7,eK f vs N=ad (oc,a7)->w P f oc a7) fu(t:n0<=4^qo)(hp:∀jA∈p,jA<n0)(zD:nz fb=ae)(zE:nz bd=ae)(hl:F.w0.heap.size<=l)(oM:l∉mk)
 {v}{N i}{k k'}{pd}(m:O7 P tt eK fu qo n0 t0 p fb bd v N k=ad (pd,i,k'))
  (Bz:eV qo n0 t0 k) (kZ:gh N k) {g}{W}(hh:aR {F with n:=n0,ds:=ds0,rd:=none} (·<k) (bA qo n0 t0 N.flatten).kn g W a0) {u}(hv:fV g v u) (wu:∀id∈cX v,id<k)
  (apF:W.heap[l]? =ad (.loop<|kh fnid a0.tmps p fb bd D none)) (nW:∀D∈mk,W.heap[D]? =ad (.deferred<|ad []))
  {qV:Ending->cJ->Prop} (hR:∀g' W',k<=k'->gh i k'->aR {F with n:=n0,ds:=ds0,rd:=none} (·<k') (bA qo n0 t0 i.flatten).kn g' W' a0->gN (·<k) g g'->W'.heap[l]? =ad (.loop<|kh fnid a0.tmps p fb bd D pd)->(∀D∈mk,W'.heap[D]? =ad (.deferred<|ad []))->qV (.returned<|.bool pd.isNone) W'):
  RoundIn (dP none) 0 P l fnid (tS p u a0.tmps) fb bd W qV:=by
 unfold O7 at m
 split at m
 .rename_i t1 x k1 Vg h1;obtain⟨DS,h1⟩:=Hf h1 au;have s:∀(e:Ex) z b,Hc x=ae->eJ (jD P tt eK fu qo n0 0 bd t1 x k1 []) e z i k' b->(∀X:cJ,X.heap[l]? =ad (.loop {kh fnid a0.tmps p fb bd D none with state:= .busy})->∀C K,(Instr.endRound l pd).run P X= .ok K C->qV (.returned K) C->∀a5,roundPost P l qV e.J2 a5 X)->
    RoundIn (dP none) 0 P l fnid (tS p u a0.tmps) fb bd W qV:=by
   intro e z b a d Q
   have h0:aR {F with n:=n0,ds:=[],rd:=ad l} (·<k) (bA qo n0 (q9 qo p v t0) N.flatten).kn g W {tmps:=tS p u a0.tmps,defers:=[]}:=aR.q9 t J (hh.defer [] (ad l)) hp hv wu
   have c:=Ha lu cK B fu qo n0 0 fb _ N k [] .dQ t1 x k1 Vg t (bg _) (eV.q9 t Bz hp wu) kZ h1
   have g2:=Ha lu cK B fu qo n0 0 bd t1 x k1 [] e z i k' b t (bg _) c.1.eV c.1.gh d
   refine roundIn_of_wpIn (F:=dP none) j ?_
   refine wpIn_mono (F:=dP<|ad l) (c.2.wj (F:={F with n:=n0,ds:=[],rd:=ad l}) J (.inr zD) h0<|Hd DS _ _ _) ?_
   rintro e1 a1 W1 ⟨rfl,ga,ha,y,E⟩
   have T:=y.same _ _ apF J
   have G:(kh fnid a0.tmps p fb bd D none).state= .ready:=rfl
   refine⟨_,run_beginRound T G,?_⟩
   have I:l<W1.heap.size:=(fY.1 T).1
   refine wpIn_mono (F:=dP<|ad l) (g2.2.wj (F:={F with n:=n0,ds:=[],rd:=ad l}) J (.inr zE) (ha.wx<|WX.putObj (.loop {kh fnid a0.tmps p fb bd D none with state:= .busy}) T J hl)<|Hd a _ _ _) ?_
   rintro e2 a2 W2 ⟨rfl,gb,hb,L,M⟩
   have A:=L.same _ _ (VC (o:= .loop {kh fnid a0.tmps p fb bd D none with state:= .busy}) I) J
   refine Q W2 A _ _ (run_endRound (P:=P) pd A) ?_ a2
   have S:l<W2.heap.size:=(fY.1 A).1
   have U:gN (·<k) g gb:=⟨E.H.trans M.H,λid V=>(M.γ id<|gK V c.1.le).trans<|E.γ id V⟩
   refine hR gb _ (br c.1.le g2.1.le) g2.1.gh ((hh.swap hb (br c.1.le g2.1.le) U).wx<|WX.putObj _ A J hl) U ?_ ?_
   .rw[VC S];rfl
   .intro D' Y;have Z:D'≠l:=λe=>oM (e▸Y)
    rw[DR Z];refine L.same _ _ ?_ J;rw[DR Z];exact y.same _ _ (nW D' Y) J
  split at m
  next z G8 k2 b d=>obtain⟨a,d⟩:=Hf d au;simp at m;obtain⟨rfl,rfl,rfl⟩:=m;exact s .dQ z b a d<|λX _ C K he hr a5=>⟨K,C,he,hr⟩
  next id z G8 k2 b d=>obtain⟨a,d⟩:=Hf d au;simp at m;obtain⟨rfl,rfl,rfl⟩:=m;exact s (.iE id) z b a d<|λX _ C K he hr a5=>⟨K,C,he,hr⟩
  next z G8 k2 b d=>obtain⟨a,d⟩:=Hf d au;simp at m;obtain⟨rfl,rfl,rfl⟩:=m;exact s .ret z b a d<|λX _ C K he hr a5=>⟨K,C,he,hr⟩
  .cases m
 .cases m
end
section
variable{P:bW}{tt:TT}{eK:jB->E AV->Ms->aw (E AV×AV)}
variable{F:dO}{dep n qo n0:G}{t0:Tr}{a0:Act}{ds0:E KA}{kt l:G}{fnid:jB}{p:E G}{D:G}{fb bd:fJ}{mk:E G}
def apG{rc:aw fJ->Loop}:∀d s b,VB dep n d s=ad b->∀a W,IY F dep n qo n0 t0 a0 ds0 kt l rc mk s a W->a.eval d= .bool b:=by
 intro d s b h a W i;let ⟨g,_,_,_,hh,_⟩:=i;unfold VB at h;split at h
 .rename_i q k;split at h
  next u t=>cases h;exact dY hh _ d _ (mm (m:=s.ms.flatten) k t)<|eQ _ d
  .cases h
 .cases h
def apH(lu:P.follows .mixedOrders=ae)(cK:cE P tt=ae)(N:∀f vs ms oc a7,eK f vs ms=ad (oc,a7)->w P f oc a7) fu(hn:n<=4^dep)(Tv:n0<=4^qo)(hp:∀jA∈p,jA<n0)(zD:nz fb=ae)(zE:nz bd=ae)(hl:F.w0.heap.size<=l)(oM:l∉mk):
  ∀dU s a7,VA P tt eK fu dep n kt (Z p) (O7 P tt eK fu qo n0 t0 p fb bd) dU s=a7->a7≠ .no->∀a W,IY F dep n qo n0 t0 a0 ds0 kt l (kh fnid a0.tmps p fb bd D) mk s a W->
   dU.wpIn (dP none) 0 P (a7.post<|IY F dep n qo n0 t0 a0 ds0 kt l (kh fnid a0.tmps p fb bd D) mk) a W:=by
 intro dU s a7 h I a W hI
 unfold VA at h
 split at h
 .rename_i S A draw;let ⟨g,m6,kZ,Bz,hh,hh0,L,M,Q,nW⟩:=hI;split at h
  next t' x9 k' mn h1=>obtain⟨DS,h1⟩:=Hf h1 au;subst h;have O:=Ha lu cK N fu dep n 0 _ s.t s.ms s.k [] .dQ t' x9 k' mn hn (bg _) m6 kZ h1;refine wpIn_mono (F:=dP none) (O.2.wj (F:={F with n:=n,ds:=[],rd:=none}) J (.inl J) hh<|Hd DS _ _ _) ?_;rintro e1 T W1 ⟨rfl,ga,ha,Pa,VD⟩;exact⟨J,ga,O.1.eV,O.1.gh,Bz.le O.1.le,ha,hh0.swap ha O.1.le VD,gK L O.1.le,(VD.γ kt L).trans M,Pa.same _ _ Q J,λD hD=>Pa.same _ _ (nW D hD) J⟩
  .split at h
   .split at h
    .rename_i hpd;rw[hpd]at Q;unfold ad0 at h;split at h
     .rename_i i o d j x VE;let ⟨hy,_,hoi⟩:=ad1 VE;let ⟨VF,kH,b9⟩:=apD hy;have U:A[i]? =ad o:=by simpa using hoi
      have apK:i<A.size:=(fY.1 U).1;split at h
      .rename_i gp gq hgp hgq;split at h
       .rename_i t1 ms1 k1 Vg f1 C;obtain⟨DS,C⟩:=adW C au;split at h
        .rename_i V;simp only[cP,vd,nY]at V;let ⟨⟨⟨⟨H,dG⟩,hjn⟩,hxn⟩,DT⟩:=V;split at h
         .rename_i e v hgj hgx;split at h
          .rename_i qj;have:=mi qj;subst this;split at h
           .rename_i pd G8 k2 apP;split at h
            .rename_i t3 ms3 k3 wl3 f3 K;obtain⟨apQ,K⟩:=adW K au;subst h;have q6:x8 P (vf P tt eK<|jD P tt eK fu):=Vn cK N<|Ha lu cK N fu;let ⟨Ue,apR,apS,apT⟩:=Vz cK q6 hn (ops:=A) (r i A.toList) 0 C hgp (λj o' hj=>by
              rw[Jm]at hj;split at hj
              .simpa using hj
              .cases hj) m6 kZ
             refine wpIn_region ?_;have R:bJ A.size=KB 0 (r i A.toList).length++(i::(KB (i+1) (az (i+1) A.toList).length++[])):=by rw[ji,M8];have e1:(r i A.toList).length=i:=cd;have e2:(az (i+1) A.toList).length=A.size-(i+1):=au;rw[e1,e2,<-FB];have:A.size-(i+1)+1=A.size-i:=Y;rw[this];have:=List.range'_append (s:=0) (m:=i) (n:=A.size-i) (step:=1);simp only[je,fD]at this;rw[this];congr 1;omega
             rw[R];refine apT ({F with n:=n,ds:=[],rd:=none}.re W g s.k) J (λ_ _ _=> .inl J) _ _ g W a (hh.re<|Hd DS _ _ _) ?_;intro O W1 T VG;let ⟨hA,Hg,Pb⟩:=hh.un VG;have hvv:∀(x:E G)(v:E AV),(∀y∈x,y<n)->O5 dep t1 x=ad v->fV O v (x.map λy=>T.tmps.getD y undef)/\∀S∈cX v,S<k1:=by
              intro x;induction x with
              |nil=>intro v _ h;cases h;exact⟨J,λS aY=>yX⟩
              |cons y x ih=>
               intro v hb h
               simp only[O5]at h
               split at h
               .rename_i u vs hu u7;cases h;have hy:=hb y au;let ⟨i1,i2⟩:=ih vs (λz hz=>hb z<|ls _ hz) u7;refine⟨⟨_,_,J,hA.dW y u<|O' hy hu,i1⟩,λS aY=>?_⟩;rcases bl.1 aY with h|h
                .exact hA.ak (.s y) (.v u) (O' hy hu) S h
                .exact i2 S h
               .cases h
             let ⟨hv,wu⟩:=hvv x v hxn hgx;have VH:T.tmps.getD j undef= .func (.yield l) #[] #[]:=by have h1:bh O (.c<|.X e) (T.tmps.getD j undef):=hA.dW j _<|O' hjn hgj;have h2:T.tmps.getD j undef=O.γ e:=h1;rw[h2,Pb.γ e L,M]
             show wpOpsIn (dP none) 0 P A _ (i::_) T W1;rw[wpOpsIn_cons];unfold wpOpIn;rw[U];have VI:iv o (yielded A T.tmps)=ae:=by
              unfold gdY at H;unfold iv;split at H
              next hg=>rw[hg]
              .rename_i gj want hg;rw[hg];split at H
               .rename_i tg htg;split at H
                next b J1 n6=>have:=hA.dW tg _<|O' (c7 J1) n6;simp only[F1 htg this];simpa using H
                .cases H
               .cases H
             simp only[VI,cz];refine⟨λ_ _=>trivial,?_⟩;have hex:(o.semAt (dP none).round T.eval).run P W1= .ok (.round l fnid (tS p (x.map λy=>T.tmps.getD y undef) a0.tmps) fb bd) W1:=by
              show(execOp T.eval o).run P W1=_;rw[execOp,b9];have e1:T.eval (.tmp j)= .func (.yield l) #[] #[]:=VH;have e2:(⟨x.map adY⟩:Array fE).map T.eval=⟨x.map λy=>T.tmps.getD y undef⟩:=by apply FP;simp[Act.eval]
              simp only[resolve,e1,e2,zs,pure_bind,invoke];rw[<-apC,Array.empty_append];exact run_yield (P:=P) (args:=⟨x.map λy=>T.tmps.getD y undef⟩) (Hg.same _ _ Q J) (by show Z (x.map _)=Z p;rw[dj];exact (mi DT))
             rw[hex];simp only[Oper.uponIn_round];refine⟨λhh=>FA,apE (mk:=mk) (D:=D) lu cK N fu Tv hp zD zE hl oM apP (Bz.le Ue) apS (hh0.swap hA Ue Pb) hv wu (Hg.same _ _ Q J) (λD hD=>Hg.same _ _ (nW D hD) J) ?_⟩;intro g2 W2 ad5 apX hC2 hG2 apY apZ;simp only;have BA:=(hA.swap hC2 ad5 hG2).adT (dep:=dep) (n:=n) hn J dG (v:= .c<|.B pd.isNone) (u:= .bool pd.isNone) J<|λS aY=>yX;have ap0:eV dep n (kY (dm dep d) (.c<|.B pd.isNone) t1) k2:=(apR.le ad5).set hn dG<|λS aY=>yX;let ⟨ap1,ap2,ap3,ap4⟩:=Vz cK q6 hn (ops:=A) (az (i+1) A.toList) (i+1) K hgq (λj o' hj=>by rw[uS]at hj;simpa using hj) ap0 apX;rw[VF];refine ap4 ({F with n:=n,ds:=[],rd:=none}.re W2 g2 k2) J (λ_ _ _=> .inl J) _ _ g2 W2 _ (BA.re<|Hd apQ _ _ _) ?_;intro g3 W3 a3 VJ;let ⟨Pc,Pe,VK⟩:=BA.un VJ;have NL:s.k<=k3:=Y;refine⟨J,g3,ap2,ap3,Bz.le NL,Pc,hC2.swap Pc ap1 VK,gK L NL,?_,Pe.same _ _ apY J,λD hD=>Pe.same _ _ (apZ D hD) J⟩;rw[VK.γ e Y,hG2.γ e Y,Pb.γ e L,M]
            .exact aF h.symm I
           .exact aF h.symm I
          .exact aF h.symm I
         .exact aF h.symm I
        .exact aF h.symm I
       .exact aF h.symm I
      .exact aF h.symm I
     .exact aF h.symm I
    .exact aF h.symm I
   .exact aF h.symm I
 .exact aF h.symm I
end
def kK(D:G):KA:={target:= .collected D,args:= #[]}
structure SR where
 t:Tr
 ms:Ms
 k:G
def Pf(s:SR)(a:SY):jE SR:=match a.pd with
 |none=> .dQ ⟨s.t,a.ms,a.k⟩
 |some (.exit id)=> .iE id ⟨s.t,a.ms,a.k⟩
 |some .ret=> .ret ⟨s.t,a.ms,a.k⟩
 |_=> .no
def ad8(P:bW)(g:TT)(b:jB->E AV->Ms->aw (E AV×AV))(i m dep n:G)(p:E G)(d u:fJ)(l:E AV)(a:Func)(v:fJ)(s:SR):jE SR:=
 match a.name != "runtime.NumGoroutine" &&fa (Z l+1) a.ntmps&&fa a.ntmps 4096&&a.results.isEmpty with
 |true=>(match gen (VA P g b i (fH a.ntmps) a.ntmps s.k (Z p)<|O7 P g b i dep n s.t p d u) (VB (fH a.ntmps) a.ntmps) m v ⟨oO (fH a.ntmps) (.c (.X s.k)::l) 0 .e,s.ms,s.k+1,none⟩with
  | .dQ f=>Pf s f
  | .ret f=>Pf s f
  |_=> .no)
 |false=> .no
def ad9(P:bW)(d:TT)(a:jB->E AV->Ms->aw (E AV×AV))(g i dep n:G)(p:E G)(b k:fJ)(l:G)(s:SR):jE SR:=
 match bO l s.ms with
 |some (.eB f [] caps)=>(match tM caps with
  |some ws=>(match P.funcs[f]? with
   |some fn=>(match fn.body with
    |some cb=>ad8 P d a g i dep n p b k ws fn cb s
    |none=> .no)
   |none=> .no)
  |none=> .no)
 |_=> .no
def Pg(P:bW)(d:TT)(a:jB->E AV->Ms->aw (E AV×AV))(f i dep n:G)(l:fJ)(s:SR):jE SR:=match l with
 | .region id ops draw=>(match He s.ms (jD P d a f dep n 0 (.region id ops draw) s.t s.ms s.k [])with
  | .dQ m b u _=> .dQ ⟨m,b,u⟩
  |_=> .no)
 | .rangeFunc g ⟨p⟩ fb bd=>(match p.all (λq=>dZ q n)&&nz fb&&nz bd with
  |true=>(match jC dep n g with
   |some v=>(match lB s.t v with
    |some (.c<|.X id)=>ad9 P d a f i dep n p fb bd id s
    |_=> .no)
   |none=> .no)
  |false=> .no)
 |_=> .no
def Ph(dep n:G)(a:fE)(s:SR):aw Bool:=match jC dep n a with
 |some p=>(match lB s.t p with
  |some (.c<|.B b)=>ad b
  |_=>none)
 |none=>none
def IR(b:dO)(dep n:G)(s:SR)(a:Act)(W:cJ):Prop:=
 ∃(g:Gh)(mk:E G),eV dep n s.t s.k/\gh s.ms s.k/\aR {b with n:=n,ds:=mk.map kK,rd:=none} (·<s.k) (bA dep n s.t s.ms.flatten).kn g W a/\
  (∀D∈mk,W.heap[D]? =ad (.deferred<|ad [])/\b.w0.heap.size<=D)/\mk.Nodup
section
variable{P:bW}{tt:TT}{eK:jB->E AV->Ms->aw (E AV×AV)}{F:dO}
def aR.args{nn dep n k d p}{t}{m:Mem}{g}{W}{a}{ds}{rd}(i:aR {F with n:=nn,ds:=ds,rd:=rd} (·<k) (bA dep n t m).kn g W a){vs}{z}(T:fV g vs z)(H:∀A∈cX vs,A<k)(hle:Z vs<=p)(zH:p<=4^d):
  aR {F with n:=p,ds:=[],rd:=none} (·<k) (bA d p (oO d vs 0 .e) m).kn g W {tmps:=z.toArray++Array.replicate (p-z.toArray.size) undef,defers:=[]}:=by
 have c:=xL T
 have B:∀j v,(bA d p (oO d vs 0 .e) m).kn (.s j)=ad (.v v)->o j (dT 0 vs)=ad v:=by
  intro j v f;rw[GJ]at f;simp only at f;by_cases C:j<p
  .rw[q C,DO _ vs 0 .e j Y Y,Bl]at f;cases hl:o j (dT 0 vs)with
   |none=>rw[hl]at f;simp at f
   |some x=>rw[hl]at f;simp[xK]at f;rw[f]
  .rw[y C]at f;simp at f
 refine⟨cd,J,λj v f=>?_,i.cM,i.inj,λK x N A l=>?_,i.dX,i.sub,i.below,i.le,i.fresh,i.fT⟩
 .let ⟨_,u,hu,Q,_⟩:=me vs z 0 T j v<|B j v f;have D:z[j]? =ad u:=v3;have jK:j<Z z:=(qQ.1 D).1;rw[l7,uW zd];simpa[D]using Q
 .cases K with
  |m j=>exact i.ak (.m j) x N A l
  |s j=>
   cases x with
   |b _=>simp[bA,St.kn]at N
   |v X=>exact H A<|(Bx vs 0 j X<|B j X N).2 A l
def ap5{dep n}:∀d s b,Ph dep n d s=ad b->∀a W,IR F dep n s a W->a.eval d= .bool b:=by
 intro d s b h a W i;let ⟨g,mk,_,_,hh,_⟩:=i;unfold Ph at h;split at h
 .rename_i q k;split at h
  next p l=>cases h;exact dY hh _ d _ (mm (m:=s.ms.flatten) k l)<|eQ _ d
  .cases h
 .cases h
def ap6(lu:P.follows .mixedOrders=ae)(cK:cE P tt=ae)(By:∀f vs ms oc a7,eK f vs ms=ad (oc,a7)->w P f oc a7) fu fy{dep n}(hn:n<=4^dep):
  ∀dU s a7,Pg P tt eK fu fy dep n dU s=a7->a7≠ .no->∀a W,IR F dep n s a W->dU.wpIn (dP none) 0 P (a7.post<|IR F dep n) a W:=by
 intro dU s a7 h q a W hI
 unfold Pg at h
 split at h
 .rename_i id ops draw;let ⟨g,mk,m6,kZ,hh,K,lv⟩:=hI;split at h
  next t' x9 k' mn U=>obtain⟨DS,U⟩:=Hf U au;subst h;have g1:=Ha lu cK By fu dep n 0 _ s.t s.ms s.k [] .dQ t' x9 k' mn hn (bg _) m6 kZ U;refine wpIn_mono (F:=dP none) (g1.2.wj (F:={F with n:=n,ds:=mk.map kK,rd:=none}) J (.inl J) hh<|Hd DS _ _ _) ?_;rintro e1 a1 G ⟨rfl,ga,ha,Pa,VD⟩;exact⟨J,ga,mk,g1.1.eV,g1.1.gh,ha,λD y=>⟨Pa.same _ _ (K D y).1 J,(K D y).2⟩,lv⟩
  .exact aF h.symm q
 .rename_i VL p A bd;let ⟨g,mk,m6,kZ,hh,K,lv⟩:=hI;split at h
  .rename_i ad';simp only[cP,vd,nY]at ad';let ⟨⟨hp,zD⟩,zE⟩:=ad';split at h
   .rename_i pg hpg;split at h
    .rename_i id aY;unfold ad9 at h;split at h
     .rename_i f caps q8;split at h
      .rename_i ws C8;split at h
       .rename_i fn DU;split at h
        .rename_i cb yZ;unfold ad8 at h;split at h
         .rename_i I;simp only[cP]at I;let ⟨⟨⟨qY,L⟩,iu⟩,JN⟩:=I;have L:Z ws+1<=fn.ntmps:=c7 L;have zH:fn.ntmps<=4^fH fn.ntmps:=Vl<|c7 iu;have V:oI P f=ae:=by simp[oI,DU,yZ,qY]
          have DQ:a.eval VL=g.γ id:=dY hh _ VL _ (mm (m:=s.ms.flatten) hpg aY)<|eQ _ VL;have r9:(bA dep n s.t s.ms.flatten).kn (.m id)=ad (.b<|.eB f [] caps):=by show(o id s.ms.flatten).map Info.b=_;rw[kJ,q8];rfl
          let ⟨Pj,wv,hγ,M,Pk⟩:=hh.cM id _ r9;have M:Pj=[]:=M;subst M;have aea:∀z∈cX ws,z<s.k:=λz B=>hh.ak (.m id) _ r9 z<|gO _<|Ds C8 z B
          refine wpIn_rangeFunc (F:=dP none)<|λd _=>?_;obtain⟨G,O⟩:∃G,(W.alloc<|.deferred<|ad []).alloc (.loop {state:= .ready,pending:=none,fn:=d,tmps:=a.tmps,params:=⟨p⟩,assign:=A,body:=bd,defers:=W.heap.size})=G:=⟨_,J⟩;refine⟨W.heap.size+1,[kK W.heap.size],G,{target:= .fn (.func f) wv.toArray,args:= #[.func (.yield<|W.heap.size+1) #[] #[]]},G,f,#[.func (.yield<|W.heap.size+1) #[] #[]]++wv.toArray,G,?_,?_,λ_ _=>trivial,N8 V,λhh=>FA,?_⟩
          .rw[<-O];exact run_enterLoop_outer d a.tmps ⟨p⟩ A bd
          .simp only[resolve,DQ,hγ,zs];simp[Act.eval]
          .have VM:WX F.w0.heap.size W G:=by rw[<-O];exact(WX.alloc _ _ _).trans (WX.alloc _ _ _)
           have hB:F.w0.heap.size<=W.heap.size:=hh.below.size;have VN:G.heap[W.heap.size]? =ad (.deferred<|ad []):=by rw[<-O];exact(Below.heap_alloc _ _ _ au).trans<|VO W _
           have KD:G.heap[W.heap.size+1]? =ad (.loop<|kh d a.tmps p A bd W.heap.size none):=by rw[<-O];have:=VO (w:=W.alloc<|.deferred<|ad [])<|.loop {state:= .ready,pending:=none,fn:=d,tmps:=a.tmps,params:=⟨p⟩,assign:=A,body:=bd,defers:=W.heap.size};rwa[World.size_alloc]at this
           have KE:∀D∈W.heap.size::mk,G.heap[D]? =ad (.deferred<|ad []):=by
            intro D y;rcases b7.1 y with rfl|y
            .exact VN
            .have U:=(K D y).1;rw[<-O];exact(Below.heap_alloc _ _ _<|by have:=(fY.1 U).1;simp;omega).trans<|(Below.heap_alloc _ _ _ (fY.1 U).1).trans U
           have oM:W.heap.size+1∉W.heap.size::mk:=by intro hc;have:=KE _ hc;rw[KD]at this;cases this
           have Hh:=(hh.apy<|.func (.yield<|W.heap.size+1) #[] #[]).wx VM;have aeb:(g.new s.k<|.func (.yield<|W.heap.size+1) #[] #[]).γ s.k= .func (.yield<|W.heap.size+1) #[] #[]:=by simp[Gh.new]
           have yb:gN (·<s.k) g (g.new s.k<|.func (.yield<|W.heap.size+1) #[] #[]):=⟨cL.refl _,λz B=>by have:z≠s.k:=Nat.ne_of_lt B;simp[Gh.new,this]⟩;have VP:fV (g.new s.k<|.func (.yield<|W.heap.size+1) #[] #[]) (.c (.X s.k)::ws) (.func (.yield<|W.heap.size+1) #[] #[]::wv):=by
            refine⟨_,_,J,aeb.symm,?_⟩;have key:∀{xs:E AV}{vv:E aT},fV g xs vv->(∀z∈cX xs,z<s.k)->fV (g.new s.k<|.func (.yield<|W.heap.size+1) #[] #[]) xs vv:=by
             intro xs;induction xs with
             |nil=>intro vv h _;exact h
             |cons x xs ih=>
              rintro vv ⟨u,a7,rfl,U,h2⟩ hb
              exact⟨u,a7,J,bh.mono yb (λz B=>hb z<|eT _ B) U,ih h2<|λz B=>hb z<|gO _ B⟩
            exact key (JV C8 Pk) aea
           have aec:∀z∈cX (.c (.X s.k)::ws),z<s.k+1:=by
            intro z B;simp only[cX,bl]at B;rcases B with B|B
            .have:z=s.k:=by simpa[AV.ak,C.ak]using B
             omega
            .exact OU<|aea z B
           have ap8:eV (fH fn.ntmps) fn.ntmps (oO (fH fn.ntmps) (.c (.X s.k)::ws) 0 .e) (s.k+1):=by
            intro z v B hv i hi;rw[DO _ _ 0 .e z cd Y,Bl]at hv;split at hv
            next u hu=>cases hv;exact aec i<|(Bx _ 0 z v hu).2 i hi
            .cases hv
           have yc:IY F (fH fn.ntmps) fn.ntmps dep n s.t a (mk.map kK) s.k (W.heap.size+1) (kh d a.tmps p A bd W.heap.size) (W.heap.size::mk) ⟨oO (fH fn.ntmps) (.c (.X s.k)::ws) 0 .e,s.ms,s.k+1,none⟩ {tmps:=(.func (.yield<|W.heap.size+1) #[] #[]::wv).toArray++Array.replicate (fn.ntmps-(.func (.yield<|W.heap.size+1) #[] #[]::wv).toArray.size) undef,defers:=[]} G:=
            ⟨_,ap8,kZ.le<|adv _,m6.le<|adv _,Hh.args VP aec (by simpa using L) zH,Hh,dV _,aeb,KD,KE⟩
           have Pl:(#[.func (.yield<|W.heap.size+1) #[] #[]]++wv.toArray:Array aT)=(.func (.yield<|W.heap.size+1) #[] #[]::wv).toArray:=au;rw[Pl];refine callsIn_of_wp (F:=dP none) DU yZ j ?_;have aed:=adU (P:=P) (Fe:=dP none) (apH (F:=F) (t0:=s.t) (mk:=W.heap.size::mk) (ds0:=mk.map kK) (a0:=a) (kt:=s.k) (l:=W.heap.size+1) (fnid:=d) (D:=W.heap.size) lu cK By fu zH hn hp zD zE (by omega:F.w0.heap.size<=W.heap.size+1) oM) apG fy cb;have GF:∀(N:SY)(a':Act)(Q:cJ),Pf s N=a7->IY F (fH fn.ntmps) fn.ntmps dep n s.t a (mk.map kK) s.k (W.heap.size+1) (kh d a.tmps p A bd W.heap.size) (W.heap.size::mk) N a' Q->
             a'.defers=[]/\∃v,(results fn a'.tmps).run P Q= .ok v Q/\rangePost (dP none) 0 P (W.heap.size+1) (a7.post<|IR F dep n) {a with defers:=[kK W.heap.size]++a.defers} (.returned v) Q:=by
            intro N a' Q hf R
            let ⟨g',aAd,ap9,ap',Pm,VR,aAe,aAf,H,Pn⟩:=R
            refine⟨Pm.defers,.tuple #[],?_,?_⟩
            .have Po:fn.results= #[]:=by simpa using JN
             simp[results,Po]
            .have jK:W.heap.size+1<Q.heap.size:=(fY.1 H).1;refine⟨N.pd,_,run_endLoop (P:=P) H (by cases N.pd<;>simp[kh]),?_⟩;have VS:WX F.w0.heap.size Q (Q.putObj (W.heap.size+1)<|.loop {kh d a.tmps p A bd W.heap.size N.pd with state:= .exhausted}):=WX.putObj _ H J Y;have T:IR F dep n ⟨s.t,N.ms,N.k⟩ {a with defers:=[kK W.heap.size]++a.defers} (Q.putObj (W.heap.size+1)<|.loop {kh d a.tmps p A bd W.heap.size N.pd with state:= .exhausted}):=by
              refine⟨g',W.heap.size::mk,ap',ap9,?_,λD y=>⟨?_,?_⟩,?_⟩
              .have h6:a.defers=mk.map kK:=hh.defers;rw[h6];exact ((VR.wx VS).defer (kK W.heap.size::mk.map kK) none)
              .have eZ:D≠W.heap.size+1:=λe=>oM (e▸y)
               rw[DR eZ];exact Pn D y
              .rcases b7.1 y with rfl|y
               .exact hB
               .exact(K D y).2
              .refine AT.2 ⟨λhc=>?_,lv⟩;have:=(fY.1 (K _ hc).1).1;omega
             unfold Pf at hf;split at hf
             next S=>rw[S]at T⊢;subst hf;exact⟨J,T⟩
             next qi S=>rw[S]at T⊢;subst hf;exact wpIn_exit ⟨J,T⟩
             next S=>rw[S]at T⊢;subst hf;exact wpIn_ret ⟨J,T⟩
             .exact aF hf.symm q
           split at h
           next N hg=>refine wpIn_mono (F:=dP none) (aed _ _ hg au _ _ yc) ?_;rintro e a' Q ⟨rfl,R⟩;exact GF N a' Q h R
           next N hg=>refine wpIn_mono (F:=dP none) (aed _ _ hg au _ _ yc) ?_;rintro e a' Q ⟨rfl,R⟩;exact GF N a' Q h R
           .exact aF h.symm q
         .exact aF h.symm q
        .exact aF h.symm q
       .exact aF h.symm q
      .exact aF h.symm q
     .exact aF h.symm q
    .exact aF h.symm q
   .exact aF h.symm q
  .exact aF h.symm q
 .exact aF h.symm q
end
end Go.El
end
