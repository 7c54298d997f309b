/- The fast interpreter, part 6: calls, and any operation. Own work; no condition. -/
import Derived.RangeFuncOwn
import Derived.RangeFuncLeaves
import Derived.Scope
import Derived.Test.YtceihkmakfdcnaaGreatB4
set_option linter.all false
set_option maxHeartbeats 16000000
set_option maxRecDepth 100000
open Bool renaming true->ae,false->ah
open Go renaming Program->bI,Oper->aX,Operand->eQ,World->cx,Code->eU,FuncId->iK,Value->aR,Deferred->H4
open Go.Deferred renaming ofValue->xq
open Go.El renaming ij->U
open Go.Exit renaming inBlock->DM
open Go.Op renaming operands->ZO
open Go.Operand renaming tmp->aal
open Go.Region renaming wanted->gx
open Go.World renaming putObj_heap_other->BO,putObj_heap_same->SC,alloc_heap_new->SP
open Go.stepG renaming exec->ali
open List renaming drop->ay,length->Z,getD->I,range->cw,range'->H5,take->M
open Nat renaming le_succ->ZR,ble->dU,blt->dt,strongRecOn->HZ,beq->il
open Option renaming some->ad
open _root_ renaming Nat->V,Option->au,List->E
namespace Go.El
open Go Go.RowKit
section
variable{P:bI}{tt:TT}{dep n:V}{t:Tr}{ms:Ms}{k:V}
def ZK(g:V->au Info)(a:V):∀l:E V,aC (l.map λd=>(Key.m d,g d)) (.m a)=if a∈l then ad (g a)else none
 |[]=>rfl
 |i::l=>by
  simp only[gJ,aC,Key.m.injEq,ZK g a l,bZ];by_cases b:i=a
  .subst b;simp
  .simp[b,show a≠i from λh=>b h.symm]
def ZL(g:V->au Info)(a:V):∀l:E V,aC (l.map λb=>(Key.m b,g b)) (.s a)=none
 |[]=>rfl
 |i::l=>by simp only[gJ,aC,reduceCtorEq,bQ,ZL g a l]
def ZM:∀{l:E (V×aD)}{a:V}{b:aD},U a l=ad b->a∈l.map (·.1)
 |[],a,b,h=>by simp[U]at h
 | (f,x)::l,a,b,h=>by
  simp only[U]at h;split at h
  .rename_i d;simp[d]
  .exact lL _<|ZM h
def R7:∀{l:E (V×aD)}{a:V},a∈l.map (·.1)->∃b,U a l=ad b
 |[],a,h=>by simp at h
 | (f,x)::l,a,h=>by
  simp only[U];split
  .exact⟨_,J⟩
  .rename_i d;rcases bZ.1 h with h|h
   .exact absurd h.symm d
   .exact R7 h
def akF{qn:mB}(oS:v3 P qn)(hn:n<=4^dep){o:aX}(hg:o.guard=none){d:V}(hd:o.dst=ad d)(df:d<n){cf}{args}{iz}(bO:o.op= .call ⟨.value cf,args,iz⟩){f}{vs}{ids}
  (ht:xp (bm dep n t ms.flatten) cf args.toList=ad (f,vs,ids)) (Lv:∀w∈ids,w<k) (vR:∀w∈cM vs,w<k) (jI:ff ms k) {a7}{H}{k'}{L}(hc:qn f vs ms k= .ok a7 H k' L):
  ∃ks,gD P n #[o] 0 (bm dep n t ms.flatten) (bm dep n (jH (cV dep d) a7 t) H.flatten) k k' ks/\(∀p,Key.s p∈ks.1->Key.s p∈bJ (cf::args.toList))/\(∀p,Key.s p∈ks.2->p=d)/\(∀w,Key.m w∈ks.1->w<k)/\(∀w,Key.m w∈ks.2->(w∈L/\w<k)\/(k<=w/\w<k')):=by
 let ⟨S,R8,oR,Ky,hold,akG,R9,_⟩:=oS.ok hc jI vR
 have C:∀w b,U w ms.flatten=ad b->w<k/\∀p∈b.ak,p<k:=λw b hb=>jI w b Me
 let c:St:=bm dep n t ms.flatten
 let A:E (Key×au Info):=(L.filter<|λw=>(U w ms.flatten).isSome).map<|λw=>(Key.m w,(U w H.flatten).map Info.b)
 let M:E (Key×au Info):=(.s d,ad<|.v a7)::(A++kj k H.flatten)
 let rd:=cH c cf++args.toList.flatMap (cH c)++fM c ids++fM c (ms.flatten.map (·.1))
 have HW:∀p,aC M (.m p)=if p∈L/\(U p ms.flatten).isSome=ae then ad ((U p H.flatten).map Info.b)else if k<=p then(U p H.flatten).map (λb=>ad<|.b b)else none:=by
  intro p;simp only[M,A,aC,reduceCtorEq,bQ,xo,ZK (λw=>(U w H.flatten).map Info.b) p,y4,oM];by_cases h:p∈L/\(U p ms.flatten).isSome=ae
  .simp[h]
  .rw[y h,y h]
 have Y:∀p,aC M (.s p)=if d=p then ad (ad<|.v a7)else none:=by intro p;simp only[M,A,aC,xo,ZL (λw=>(U w H.flatten).map Info.b) p,yZ,Key.s.injEq]
 have xB:∀p,p<k->p∉L->U p H.flatten=U p ms.flatten:=by intro p D Z;rw[jy,jy];exact Ky p D Z
 refine⟨(dw rd,fP M),⟨rd,M,?_,?_,?_,S.le,λ_ h=>h,λ_ h=>h⟩,?_,?_,?_,?_⟩
 .intro F jZ Q known σ g W a K AN aS fE hK;let ⟨us,hex,BD,Yj⟩:=Yo aS bO ht S.call<|λN z=>fE N<|eH _ z;have tx:=xm (st:=c) (ids:=ms.flatten.map (·.1)) (σ:=σ)<|λN z=>fE N<|gI _ z;have O:∀w b,U w ms.flatten=ad b->σ (.m w)=ad (.b b):=λw b hb=>tx w (ZM hb) b hb
  have Bh:d<a.tmps.size:=mm;have DT:=Rj S vR C (λw T=>by
    rcases R8 w T with h|⟨b,hb⟩
    .exact .inl h
    .exact .inr ⟨b,by rw[jy];exact hb⟩) (λw b hb=>by
    rcases oR w b Me with h|h
    .exact .inl (by rw[jy];exact h)
    .refine .inr<|λp hj=>?_;rcases h p hj with h|⟨b',oq⟩
     .exact .inl h
     .exact .inr ⟨b',by rw[jy];exact oq⟩) aS AN BD Yj O Bh
  have akH:bs σ ((.s d,ad<|.v a7)::(qj H.flatten ms.flatten++kj k H.flatten))=bs σ M:=by
   funext B;cases B with
   |s p=>
    simp only[bs,Y,aC,xo,Hj,yZ,Key.s.injEq]
   |m p=>
    simp only[bs,HW,aC,reduceCtorEq,bQ,xo,Lt,y4]
    by_cases I:(U p ms.flatten).isSome=ae
    .by_cases R:p∈L
     .simp[I,R]
     .let ⟨b,hb⟩:=Hk.1 I;have hjk:=(C p b hb).1;simp only[I,cd,R,false_and,bQ];rw[y G,xB p hjk R,hb,O p b hb];rfl
    .simp[I]
  rw[akH]at DT;unfold wpOp;simp only[tE,mX,gx,hg,cd];refine .inl ?_;unfold Oper.wp;rw[hex];simp only[Oper.upon,hd];refine DT.mono ?_;rintro e W' ⟨v,g',rfl,h'⟩;exact hK g' W' _ h'
 .intro N z;rcases be.1 z with h|h
  .rcases be.1 h with h|h
   .rcases be.1 h with h|h
    .exact dX _ _ N h
    .let ⟨x,_,hx⟩:=iV.1 h;exact dX _ _ N hx
   .exact lp _ _ N h
  .exact lp _ _ N h
 .funext B;cases B with
  |s p=>
   simp only[bs,Y,bm,St.kn,YU dep n t d p a7 hn df]
   by_cases e:d=p<;>simp[e]
  |m p=>
   simp only[bs,HW,bm,St.kn]
   by_cases h:p∈L/\(U p ms.flatten).isSome=ae
   .simp[h]
   .rw[y h];by_cases hk:k<=p
    .rw[q hk];cases hx:U p H.flatten with
     |some b=>rfl
     |none=>
      have:U p ms.flatten=none:=by
       cases hy:U p ms.flatten with
       |none=>rfl
       |some b=>exact absurd (C p b hy).1 G
      simp[this]
    .rw[y hk];by_cases R:p∈L
     .have Bc:U p ms.flatten=none:=by
       cases hy:U p ms.flatten with
       |none=>rfl
       |some b=>exact absurd ⟨R,uv⟩ h
      have:U p H.flatten=none:=by
       cases hy:U p H.flatten with
       |none=>rfl
       |some b=>
        rcases hold p b (by rw[<-jy];exact hy)with D|⟨b0,D⟩
        .omega
        .rw[<-jy,Bc]at D;cases D
      rw[this,Bc]
     .rw[xB p G R]
 .intro p hj;have tX:∀B∈dw rd,B∈bJ (cf::args.toList)\/∃w,B=Key.m w:=by
   intro B hk;simp only[dw,rd,fF,be]at hk;rcases hk with((h|h)|h)|h
   .exact .inl (eI c (cf::args.toList) B<|by simp only[lq,dw,fF,be];exact .inl h)
   .exact .inl (eI c (cf::args.toList) B<|by simp only[lq,dw,fF,be];exact .inr h)
   .have:=kf c ids B h;right;revert this;generalize ids=l;intro this;induction l with
    |nil=>simp[cY]at this
    |cons i l X=>simp only[cY,bZ]at this;exact this.elim (λe=>⟨i,e⟩) X
   .have:=kf c _ B h;right;revert this;generalize ms.flatten.map (·.1)=l;intro this;induction l with
    |nil=>simp[cY]at this
    |cons i l X=>simp only[cY,bZ]at this;exact this.elim (λe=>⟨i,e⟩) X
  rcases tX _ hj with h|⟨w,h⟩
  .exact h
  .cases h
 .intro p hj;apply Decidable.byContradiction;intro fe;have:=Y p;rw[y (λe=>fe e.symm)]at this;have Z:∀{u:E (Key×au Info)}{B:Key},B∈fP u->aC u B≠none:=by
   intro u;induction u with
   |nil=>intro B h;simp[fP]at h
   |cons x u X=>
    intro B h
    simp only[aC]
    split
    .simp
    .rename_i fe;simp only[fP,gJ,bZ]at h;rcases h with h|h
     .exact absurd h.symm fe
     .exact X h
  exact Z hj this
 .intro w T;simp only[dw,rd,fF,be]at T;have mj:∀{l:E V},Key.m w∈cY l->w∈l:=by
   intro l;induction l with
   |nil=>simp[cY]
   |cons i l X=>simp only[cY,bZ,Key.m.injEq];exact λh=>h.elim .inl<|λh=> .inr<|X h
  have sJ:∀{l:E eQ},Key.m w∉bJ l:=by
   intro l;induction l with
   |nil=>simp[bJ]
   |cons x l X=>cases x<;>simp[bJ,X]
  rcases T with((h|h)|h)|h
  .exact absurd (eI c [cf] (.m w) KW) sJ
  .exact absurd (eI c args.toList (.m w) h) sJ
  .exact Lv w<|mj<|kf c ids _ h
  .let ⟨b,hb⟩:=R7<|mj<|kf c _ _ h;exact(C w b hb).1
 .intro w T;simp only[fP,M,A,gJ,fF,bZ,reduceCtorEq,false_or,be,Mf]at T;rcases T with h|h
  .let ⟨p,hj,e⟩:=kF.1 h;simp only[Function.comp,Key.m.injEq]at e;subst e;let ⟨D,Z⟩:=oM.1 hj;let ⟨b,hb⟩:=Hk.1 Z;exact .inl ⟨D,(C _ b hb).1⟩
  .right;have R:∀{l:E (V×aD)},Key.m w∈(kj k l).map (·.1)->k<=w/\w∈l.map (·.1):=by
    intro l;induction l with
    |nil=>simp[kj]
    |cons x l X=>
     let ⟨i,b⟩:=x
     simp only[kj]
     split
     .rename_i Bp;simp only[gJ,bZ,Key.m.injEq];rintro(rfl|h)
      .exact⟨Bp,.inl J⟩
      .exact⟨(X h).1,.inr (X h).2⟩
     .intro h;exact⟨(X h).1,lL _ (X h).2⟩
   let ⟨D,Z⟩:=R h;let ⟨b,hb⟩:=R7 Z;exact⟨D,(akG w b Me).1⟩
end
def rG:au V->E Key
 |some d=>[.s d]
 |none=>[]
def ZN(op:Op):oT op=op.operands.toList:=by
 unfold oT;split
 .rename_i b args a;simp[ZO,Call.operands]
 .rfl
section
variable{P:bI}{tt:TT}{dep n:V}{t:Tr}{ms:Ms}{k:V}
def akJ{l}{d}{b}(g:b.1=bJ l)(h:b.2=[.s d]):ze (bJ l,[.s d]) b .n:=by
 refine⟨λf a=>?_,λf a=>?_⟩
 .obtain⟨j,rfl⟩:=zg a;simp only[g];exact a
 .simp only[iw]at a;subst a;simp[h]
def ZP{l}(m:n<=4^dep){d}(a:d<n)(f:dO dep n t k)(g:ff ms k){i}{v}(o:∀p∈v.ak,p<k+1):Left l dep n t ms k i (jH (cV dep d) v t) ms (k+1) i:=
 ⟨G,(f.le G).set m a o,g.le G,λ_ _ h=>⟨h,J⟩,λ_ b _ h=>⟨b,h⟩,lT.refl _⟩
def akK{d}{a f}{b}(g:b<d)(h:b∉LZ d a f):b∉a/\b∉f:=by
 unfold LZ at h;split at h
 .exact⟨ax,h⟩
 .simp only[be,oM,not_or,not_and]at h;exact⟨λi=>h.1 i (by simpa[sO]using g),h.2⟩
def akL{b:mB}{o}{d}{f}{vs}{p}{s}{g}{m}{i}{u:Ft}(h:Er b o d f vs t ms k p= .ok s g m i u):
  ∃l a,b f vs ms k= .ok l g m a/\s=jH d l t/\i=LZ o a p/\u= .c k m a:=by
 unfold Er at h
 split at h
 .rename_i l v x a w;obtain⟨rfl,rfl,rfl,rfl,rfl,_⟩:=uw h;exact⟨l,a,w,J,J,J⟩
 .cases h
def R'{p:mB}(a:v3 P p){W}(qm:W<=k)(hn:n<=4^dep){o:aX}(hg:o.guard=none){d:V}(hd:o.dst=ad d)(u:d<n){cf}{args}{iz}(v:o.op= .call ⟨.value cf,args,iz⟩){f}{vs}{ids}
  (ht:xp (bm dep n t ms.flatten) cf args.toList=ad (f,vs,ids)) (w:∀g∈ids,g<k) (x:∀g∈cM vs,g<k) (lA:dO dep n t k) (B:ff ms k) {wl}{t'}{i}{k'}{H}{ft:Ft} (h:Er p W (cV dep d) f vs t ms k wl= .ok t' i k' H ft):
  ∃Q,gD P n #[o] 0 (bm dep n t ms.flatten) (bm dep n t' i.flatten) k k' Q/\ze Q (bJ<|oT o.op,rG o.dst) ft/\Left W dep n t ms k wl t' i k' H:=by
 obtain⟨r,z,q,rfl,rfl,rfl⟩:=akL h
 let ⟨Q,hx,A,h2,D,E⟩:=akF a hn hg hd u v ht w x B q
 let ⟨C,F,I,X,hold,K,c,e⟩:=a.ok q B x
 refine⟨Q,hx,⟨λl L=>?_,λl L=>?_⟩,⟨C.le,(lA.le C.le).set hn u c,K,λj y J=>?_,λj b y M=>?_,e⟩⟩
 .cases l with
  |s j=>simp only[oT,v];exact A j L
  |m g=>exact D g L
 .cases l with
  |s j=>simp only[hd,rG];rw[h2 j L];simp
  |m g=>exact E g L
 .let ⟨T,N⟩:=akK y J;exact⟨N,X j G T⟩
 .rcases hold j b M with T|T
  .omega
  .exact T
def ZQ(H:cq P tt=ae){qn:mB}(oS:v3 P qn){ke}(qm:ke<=k)(hn:n<=4^dep){o}(hg:o.guard=none){i}(B:HO dep n o.dst o.op=ad i)(W:dO dep n t k)(L:ff ms k){wl}{t'}{lB}{k'}{kT}{f:Ft}
  (h:qt qn tt n ke i t ms k wl= .ok t' lB k' kT f):
  (∃ks,gD P n #[o] 0 (bm dep n t ms.flatten) (bm dep n t' lB.flatten) k k' ks/\ze ks (bJ<|oT o.op,rG o.dst) f/\Left ke dep n t ms k wl t' lB k' kT)/\(nR o=ah->f= .n):=by
 have gen:∀{d:au V},o.dst=d->(∀x,d=ad x->x<n)->L1 dep n d o.op=ad i->∃ks,gD P n #[o] 0 (bm dep n t ms.flatten) (bm dep n t' lB.flatten) k k' ks/\ze ks (bJ<|oT o.op,rG o.dst) f/\Left ke dep n t ms k wl t' lB k' kT:=by
  intro d hd g O;unfold L1 at O;split at O
  .rename_i sl v5;have K:∀dd:au (V×E D4),d=dd.map (·.1)->(∀x,dd=ad x->x.2=cV dep x.1/\x.1<n)->i= .gen dd sl o.op->∃ks,gD P n #[o] 0 (bm dep n t ms.flatten) (bm dep n t' lB.flatten) k k' ks/\ze ks (bJ<|oT o.op,rG o.dst) f/\Left ke dep n t ms k wl t' lB k' kT:=by
    intro dd Sa HV F;subst F;let ⟨ks,M,Q,T,X,r,D⟩:=akD H qm hn hg (hd.trans Sa) HV v5 W L h;refine⟨ks,M,⟨λK C=>?_,λK C=>?_⟩,D⟩
    .cases K with
     |s j=>simp only[ZN];exact EI.1<|Q j C
     |m R=>exact X R C
    .cases K with
     |s j=>simp[T j C,rG]
     |m R=>exact r R C
   cases d with
   |some d=>
    simp only[aq]at O
    exact K (ad (d,cV dep d)) J (λx M=>by cases M;exact⟨J,g d J⟩) O.symm
   |none=>
    simp only[aq]at O
    exact K none J (λx M=>by cases M) O.symm
  .cases O
 unfold HO at B
 split at B
 .rename_i hd;split at B
  .rename_i ty x bN bO;refine⟨?_,λsU=>by simp[nR,hd]at sU⟩;split at B
   .rename_i p q hp hq;cases B;simp only[qt,Zn,Zm]at h;split at h
    .rename_i v w hv hw
     .split at h
      .rename_i R b us ud;split at h
       .rename_i Z;simp only[Rs.ok.injEq]at h;obtain⟨rfl,rfl,rfl,rfl,rfl⟩:=h;let ⟨M,b0,BJ,BK⟩:=akB (P:=P) (k:=k) H hg hd bO (kS hp hv) (kS hq hw) ud;have Sb:∀j,bw j (qq R b ms)=if R=j then ad b else bw j ms:=λj=>by rw[Ep,BJ]
        refine⟨_,M,⟨λK C=>?_,λK C=>?_⟩,⟨G,W.le G,?_,?_,?_,R2 R b ms⟩⟩
        .rcases be.1 C with C|C
         .obtain⟨j,rfl⟩:=zg C;simpa[oT,bO,ZO]using C
         .simp only[cY,iw]at C;subst C;simp[rF]
        .simp only[iw]at C;subst C;simp[m9]
        .intro j b' N;rw[Sb]at N;split at N
         .rename_i e;cases N;subst e;exact⟨Mg (L _ _ BJ).1,λj hj=>Mg<|(BK j hj).elim ((L _ _ BJ).2 j)<|y8 Z j⟩
         .exact(L.le<|ZR k) j b' N
        .intro j hj hw';let ⟨Q,T⟩:=R5 hj hw';exact⟨Q,by rw[Sb,y<|λe=>T e.symm]⟩
        .intro j b' _ N;rw[Sb]at N;split at N
         .rename_i e;subst e;exact⟨b0,BJ⟩
         .exact⟨b',N⟩
       .cases h
      .cases h
    .cases h
   .cases B
  .exact⟨gen hd (λx M=>by cases M) B,λsU=>by simp[nR,hd]at sU⟩
 .rename_i d hd;split at B
  .cases B
  .rename_i g;have g:d<n:=zf g;have pv:∀{v:AV},t'=jH (cV dep d) v t->lB=ms->k'=k+1->kT=wl->f= .n->(∀R∈v.ak,R<k+1)->gD P n #[o] 0 (bm dep n t ms.flatten) (bm dep n (jH (cV dep d) v t) ms.flatten) k (k+1) (bJ o.op.operands.toList,[.s d])->
     (∃ks,gD P n #[o] 0 (bm dep n t ms.flatten) (bm dep n t' lB.flatten) k k' ks/\ze ks (bJ<|oT o.op,rG o.dst) f/\Left ke dep n t ms k wl t' lB k' kT)/\(nR o=ah->f= .n):=by
    rintro v rfl rfl rfl rfl rfl Z M
    exact⟨⟨_,M,akJ (by rw[ZN]) (by rw[hd];rfl),ZP hn g W L Z⟩,λ_=>rfl⟩
   split at B
   .rename_i x bO;split at B
    .rename_i p hp;cases B;simp only[qt,RT]at h;split at h
     .rename_i v hv;let ⟨Q,T,X,r,D,I⟩:=uw h;exact pv Q T X r D I<|BF H hg hd g hn (p:= .t) (by simp only[bO,tF,kS hp hv]) A
     .cases h
    .cases B
   .rename_i x bO;split at B
    .rename_i p hp;cases B;simp only[qt,RT]at h;split at h
     .rename_i v hv;let ⟨Q,T,X,r,D,I⟩:=uw h;exact pv Q T X r D I<|BF H hg hd g hn (p:= .t) (by simp only[bO,tF,kS hp hv]) A
     .cases h
    .cases B
   .rename_i bo ty x bN ty2 bO;split at B
    .rename_i p q hp hq;cases B;simp only[qt,Zg,Zf,Ze,Zd]at h;split at h
     .rename_i a b ha hb
      .split at h
       .rename_i c pr ZS;split at h
        .rename_i zh;simp only[Rs.ok.injEq]at h;let ⟨Q,T,X,r,D⟩:=h;refine pv Q.symm T.symm X.symm r.symm D.symm (λR a6=>?_)<|BF H hg hd g hn (p:=pr) (by simp only[bO,tF,kS hp ha,kS hq hb,ZS])<|En zh;simp only[AV.ak,Xs ZS]at a6;cases a6
        .cases h
       .split at h
        .rename_i u hnt;let ⟨Q,T,X,r,D,I⟩:=uw h;exact pv Q T X r D I<|akz H hg hd g hn (p:= .t) (by simp only[bO,vQ,kS hp ha,kS hq hb,hnt]) A
        .cases h
     .cases h
    .cases B
   .rename_i ty x bN bO;split at B
    .rename_i p q hp hq;cases B;simp only[qt,Zh]at h;split at h
     .rename_i v w hv hw
      .unfold LV at h;split at h
       .rename_i u pr F;split at h
        .rename_i zh;let ⟨Q,T,X,r,D,I⟩:=uw h;unfold Y1 at F;split at F
         .rename_i z hz;cases F;exact pv Q T X r D I<|ZG H hg hd g hn (p:=pr) (by simp only[bO,D1,kS hp hv,kS hq hw,hz])<|En zh
         .exact pv Q T X r D I<|BF H hg hd g hn (p:=pr) (by simp only[bO,tF,kS hp hv,kS hq hw,F])<|En zh
        .cases h
       .cases h
     .cases h
    .cases B
   .rename_i ty x fi bO;split at B
    .rename_i p hp;cases B;simp only[qt,Zi]at h;split at h
     .rename_i v hv;split at h
      .rename_i u hu;let ⟨Q,T,X,r,D,I⟩:=uw h;exact pv Q T X r D I<|BF H hg hd g hn (p:= .t) Sd A
      .cases h
     .cases h
    .cases B
   .rename_i x j bO;split at B
    .rename_i p hp;cases B;simp only[qt,Zj]at h;split at h
     .rename_i v hv;split at h
      .rename_i u hu;let ⟨Q,T,X,r,D,I⟩:=uw h;exact pv Q T X r D I<|BF H hg hd g hn (p:= .t) Sd A
      .cases h
     .cases h
    .cases B
   .rename_i ty x bO;refine⟨?_,λsU=>Mh⟩;split at B
    .rename_i p hp;cases B;simp only[qt,Zl]at h;split at h
     .rename_i v hv;split at h
      .rename_i u ids hu;obtain⟨rfl,rfl,rfl,rfl,rfl,I⟩:=uw h;refine⟨_,akA H hg hd g hn bO (kS hp hv) hu,⟨λK C=>?_,λK C=>?_⟩,ZP hn g W L I⟩
       .rcases be.1 C with C|C
        .obtain⟨j,rfl⟩:=zg C;simpa[oT,bO,ZO]using C
        .cases K with
         |s j=>exfalso;revert C;generalize ids=l;intro C;induction l with
          |nil=>simp[cY]at C
          |cons a l ih=>simp[cY]at C;exact ih C
         |m R=>simp only[rF];revert C;generalize ids=l;intro C;induction l with
          |nil=>simp[cY]at C
          |cons a l ih=>simp only[cY,bZ,Key.m.injEq]at C⊢;exact C.elim .inl<|λh=> .inr<|ih h
       .simp only[iw]at C;subst C;simp[hd,rG]
      .cases h
     .cases h
    .cases B
   .rename_i fn args iz bO;refine⟨?_,λsU=>Mh⟩;split at B
    .rename_i ps S;cases B;simp only[qt,Zo]at h;split at h
     .rename_i vs Y;exact R' oS qm hn hg hd g bO (ids:=[]) (by simp only[xp,L8 S Y,St.ev]) (λ_ h=>fR) (L9 W S Y) W L h
     .cases h
    .cases B
   .rename_i j args iz bO;refine⟨?_,λsU=>Mh⟩;split at B
    .rename_i p ps hp S;cases B;simp only[qt,Zp]at h;split at h
     .rename_i vs Y;split at h
      .rename_i fn M;exact R' oS qm hn hg hd g bO (ids:=[]) (by simp only[xp,L8 S Y,kS hp M]) (λ_ h=>fR) (L9 W S Y) W L h
      .rename_i R M;split at h
       .rename_i fn first caps hb
        split at h
        .rename_i us ws hu hw;have hlb:U R (bm dep n t ms.flatten).mem=ad (.dI fn first caps):=by show U R ms.flatten=_;rw[jy];exact hb
         refine R' oS qm hn hg hd g bO (ids:=[R]) (by simp only[xp,L8 S Y,kS hp M,hlb,hu,hw]) (λi F=>?_) (λi F=>?_) W L h
         .simp only[iw]at F;subst F;exact(L _ _ hb).1
         .rw[Lw,Lw]at F;have BK:=(L _ _ hb).2;simp only[aD.ak,be]at BK;rcases be.1 F with F|F
          .exact BK i<|.inl<|Bn hu i F
          .rcases be.1 F with F|F
           .exact L9 W S Y i F
           .exact BK i<|.inr<|Bn hw i F
        .cases h
       .cases h
      .cases h
     .cases h
    .cases B
   .rename_i x ty bO;refine⟨?_,λsU=>Mh⟩;split at B
    .rename_i p hp;cases B;simp only[qt,Zk]at h;split at h
     .rename_i v hv;split at h
      .rename_i u hu;let ⟨Q,T,X,r,D,I⟩:=uw h;unfold Y2 at hu;split at hu
       .rename_i z hz;cases hu;exact(pv Q T X r D I<|ZG H hg hd g hn (p:= .t) (by simp only[bO,D1,kS hp hv,hz]) A).1
       .exact(pv Q T X r D I<|BF H hg hd g hn (p:= .t) Sd A).1
      .cases h
     .cases h
    .cases B
   .rename_i Q T X r D I h7 h8 h9 h10;refine⟨gen hd (λx M=>by cases M;exact g) B,λsU=>?_⟩;exfalso;unfold nR at sU;rw[hd]at sU;revert sU;clear pv gen h B;cases bO:o.op with
    |move x=>exact absurd bO<|Q x
    |assign x=>exact absurd bO<|T x
    |binOp a b c d e=>exact absurd bO<|X a b c d e
    |indexAddr a b c=>exact absurd bO<|r a b c
    |fieldAddr a b c=>exact absurd bO<|D a b c
    |extract a b=>exact absurd bO<|I a b
    |_=>simp
end
section
variable{P:bI}{tt:TT}{dep n:V}{t:Tr}{ms:Ms}{k:V}
def Left.refl{g}{f}(a:Go.El.dO dep n t k)(d:Go.El.ff ms k):Left g dep n t ms k f t ms k f:=⟨aT _,a,d,λ_ _ h=>⟨h,J⟩,λ_ b _ h=>⟨b,h⟩,lT.refl _⟩
def Left.trans{m}{p}{s u}{a d}{v w}{f i}(h:Left m dep n t ms k p s a v f)(g:Left m dep n s a v f u d w i):Left m dep n t ms k p u d w i:=
 ⟨b6 h.le g.le,g.dO,g.ff,λj l x=>by
  let ⟨o,h2⟩:=g.log j l x;let ⟨B,C⟩:=h.log j l o;exact⟨B,h2.trans C⟩,λj b l H=>by
  let ⟨K,o⟩:=g.BH j b l H;exact h.BH j K l o,h.tl.trans g.tl⟩
def akP{d}{op:Op}{i}(h:HO dep n (ad d) op=ad i):d<n:=by
 unfold HO at h;simp only at h;split at h
 .cases h
 .rename_i a;exact zf a
def ZT(b7:cq P tt=ae){qn:mB}(H:v3 P qn){ke}(qm:ke<=k)(hn:n<=4^dep){l}{i}{o}(ho:l[i]? =ad o){gi:GI}(p:RU dep n l.toList o=ad gi)(L:dO dep n t k)(Q:ff ms k){wl}{t'}{T}{k'}{kT}{f:Ft}
  (h:vS qn tt n ke gi t ms k wl= .ok t' T k' kT f):
  (∃ks,gD P n l i (bm dep n t ms.flatten) (bm dep n t' T.flatten) k k' ks/\ze ks (xA l.toList o) f/\Left ke dep n t ms k wl t' T k' kT)/\(nR o=ah->f= .n):=by
 unfold RU at p
 split at p
 .rename_i A w;split at p
  .rename_i W;cases p;simp only[vS]at h;let ⟨⟨ks,D,h2,E⟩,F⟩:=ZQ b7 H qm hn W w L Q h;refine⟨⟨ks,D.lift ho W,?_,E⟩,F⟩;have:xA l.toList o=(bJ<|oT o.op,rG o.dst):=by unfold xA rG;rw[W];cases o.dst<;>rfl
   rw[this];exact h2
  .rename_i j u W;split at p
   .rename_i e I;split at p
    .rename_i X;have X:e<n:=zf X;have a:xA l.toList o=(.s e::bJ (oT o.op),rG o.dst):=by unfold xA rG;rw[W];simp only[I];cases o.dst<;>rfl
     have M:gi.g=ad (cV dep e,u)/\gi.i=A/\gi.d=o.dst.map (cV dep):=by
      split at p
      .rename_i d K;cases p;exact⟨J,J,by rw[K];rfl⟩
      .rename_i K;cases p;exact⟨J,J,by rw[K];rfl⟩
     let ⟨N,r,O⟩:=M;simp only[vS,N,r,O]at h;split at h
     .rename_i b R;have y:U e (bm dep n t ms.flatten).sl=ad (.c<|.B b):=by show U e (dv dep n t)=_;rw[sM,q X];exact R
      split at h
      .rename_i v;have v:b=u:=by simpa using v
       subst v;let ⟨⟨ks,D,h2,E⟩,F⟩:=ZQ (o:={o with guard:=none}) b7 H qm hn J w L Q h;refine⟨⟨_,gD.guard ho W I y D,⟨λx C=>?_,h2.2⟩,E⟩,F⟩
       .rcases bZ.1 C with rfl|C
        .simp[a]
        .have:=h2.1 x C;cases x with
         |s j=>rw[a];exact lL _ this
         |m id=>exact this
      .rename_i v;cases K:o.dst with
       |none=>rw[K]at h;cases h
       |some d=>
        rw[K]at h w
        simp only[vH,Rs.ok.injEq]at h
        obtain⟨rfl,rfl,rfl,rfl,rfl⟩:=h
        have z:=akP w
        refine⟨⟨_,gD.Ro (aiG ho W I y (by cases b<;>cases u<;>simp at v⊢) K) ?_,⟨λx C=>?_,λx C=>?_⟩,⟨G,(L.le G).del hn z,Q.le G,λ_ _ h=>⟨h,J⟩,λ_ b _ h=>⟨b,h⟩,lT.refl _⟩⟩,λ_=>rfl⟩
        .rw[ake dep n t ms.flatten d hn z,XD]
        .simp only[iw]at C;subst C;simp[a]
        .simp only[iw]at C;subst C;simp[a,K,rG]
     .cases h
    .cases p
   .cases p
 .cases p
def ZU{a:mB}{i:V}:∀{s:E GI}{t:Tr}{ms:Ms}{k:V}{g:E V}{l:Tr}{b:Ms}{m:V}{d:E V}{f:Ft},vT a tt n i s t ms k g= .ok l b m d f->∀o,∃p,xy a tt n i s t ms k g o= .ok l b m d p
 |[],t,ms,k,g,l,b,m,d,f,h,o=>by have u:Rs.ok t ms k g .n= .ok l b m d f:=h;simp only[Rs.ok.injEq]at u;obtain⟨rfl,rfl,rfl,rfl,rfl⟩:=u;exact⟨o,J⟩
 |x::r,t,ms,k,g,l,b,m,d,f,h,o=>by
  have w:vT a tt n i (x::r) t ms k g=match vS a tt n i x t ms k g with| .ok l b m d _=>vT a tt n i r l b m d| .no=> .no:=rfl
  have B:xy a tt n i (x::r) t ms k g o=match vS a tt n i x t ms k g with| .ok l b m d f=>xy a tt n i r l b m d (f::o)| .no=> .no:=rfl
  rw[w]at h;rw[B];cases v:vS a tt n i x t ms k g with
  |no=>rw[v]at h;cases h
  |ok t1 C K H f1=>
   rw[v]at h
   exact ZU h _
def ZW(b7:cq P tt=ae){u:mB}(H:v3 P u){ke:V}(hn:n<=4^dep){s:Array aX}:∀(L:E aX)(i:V){gs:E GI}{t:Tr}{ms:Ms}{k:V}{W:E V}{fs:E Ft}{Q:Tr}{m:Ms}{T:V}{p:E V}{v:E Ft},
  xy u tt n ke gs t ms k W fs= .ok Q m T p v->vU dep n s.toList L=ad gs->ay i s.toList=L->ke<=k->dO dep n t k->ff ms k->
  ∃(ds:E (E (Key×Info)×E (Key×au Info)))(cl:E V)(kk:E Ks)(fk:E Ft),Steps P n s i L (bm dep n t ms.flatten) (bm dep n Q m.flatten) k T ds cl/\XJ ds kk/\v=fk.reverse++fs/\Z fk=Z L/\(∀(d:V) a o f,kk[d]? =ad a->L[d]? =ad o->fk[d]? =ad f->ze a (xA s.toList o) f/\(nR o=ah->f= .n))/\Left ke dep n t ms k W Q m T p
 |[],i,gs,t,ms,k,W,fs,Q,m,T,p,v,h,hc,_,_,lA,jI=>by simp only[vU,aq]at hc;subst hc;have h':Rd.ok t ms k W fs= .ok Q m T p v:=h;simp only[Rd.ok.injEq]at h';obtain⟨rfl,rfl,rfl,rfl,rfl⟩:=h';refine⟨[],[k],[],[],⟨J,J,J,J,?_,ax,ax,J⟩,⟨J,λd h=>by simp at h⟩,ax,J,λd a o f h=>by simp at h,Left.refl lA jI⟩;intro d a b _ h2;simp at h2
 |o::L,i,gs,t,ms,k,W,fs,Q,m,T,p,v,h,hc,w,c,lA,jI=>by
  simp only[vU]at hc;split at hc
  .rename_i g e hg A;cases hc;have e2:xy u tt n ke (g::e) t ms k W fs=match vS u tt n ke g t ms k W with| .ok Q m T p f=>xy u tt n ke e Q m T p (f::fs)| .no=> .no:=rfl
   rw[e2]at h;split at h
   .rename_i t1 ms1 k1 Se f1 hs;have ho:s[i]? =ad o:=by have:=bh (λl=>l[0]?) w;simpa[tJ]using this
    have x:ay (i+1) s.toList=L:=by rw[<-pY,w];rfl
    let ⟨⟨ks,⟨rd,wr,D,F,q,hle,I,M⟩,N,z⟩,r⟩:=ZT b7 H c hn ho hg lA jI hs;let ⟨ds,cl,kk,fk,B,⟨O,R⟩,S,U,y,Y⟩:=ZW b7 H hn L (i+1) h A x (b6 c z.le) z.dO z.ff;refine⟨(rd,wr)::ds,k::cl,ks::kk,f1::fk,⟨by simp[B.len],by simp[B.YN],J,by simpa using B.last,?_,?_,?_,?_⟩,⟨by simp[O],λd hj hj'=>?_⟩,by rw[S];simp,by simp[U],?_,z.trans Y⟩
    .intro d a b ha hb;cases d with
     |zero=>
      simp only[mX,aq,eP,vu]at ha hb
      rw[B.first]at hb
      cases hb
      omega
     |succ d=>exact B.mono d a b A4 vG
    .intro d hj a b ha hb;cases d with
     |zero=>
      simp only[mX,aq,eP,vu]at ha hb
      rw[B.first]at hb
      cases hb
      subst ha
      simpa using D
     |succ d=>
      have:=B.step d pZ a b A4 vG
      rw[(G:i+(d+1)=i+1+d)]
      simpa using this
    .intro d hj kx C;cases d with
     |zero=>simp only[vw]at C;simpa[oN]using F kx C
     |succ d=>
      simp only[AW]at C
      have:=B.reads d pZ kx C
      rw[q]at this
      simpa[oN]using this
    .rw[B.fin,q];simp[oN]
    .cases d with
     |zero=>exact⟨I,M⟩
     |succ d=>exact R d pZ (by simpa using hj')
    .intro d a o' f' ha K X;cases d with
     |zero=>
      simp only[mX,aq]at ha K X
      subst ha K X
      exact⟨N,r⟩
     |succ d=>exact y d a o' f' A4 (by simpa using K) (by simpa using X)
   .cases h
  .cases hc
def akS(jQ:P.follows .mixedOrders=ae){v}{p}{d}{H Q}{k w}{l}{L}(x:Steps P v.n d 0 d.toList H Q k w l L)
  (T:p=ae->(∀i o cz,d[i]? =ad o->cz∈o.after->Region.binds .any cz=ae->cz.on<i)/\
   ∀i h,i<h->h<d.size->∀f,((f∈fP (I l i ([],[])).2/\f∈fP (I l h ([],[])).2)\/(f∈fP (I l i ([],[])).2/\f∈dw (I l h ([],[])).1)\/(f∈dw (I l i ([],[])).1/\f∈fP (I l h ([],[])).2))->lM d i h)
 {id}{kJ:Exit->Act->cx->Prop} (hQ:∀g W a,aJ v (·<w) Q.kn g W a->kJ .normal a W)
 {g}{W}{a}(h0:aJ v (·<k) H.kn g W a) (jR:vp v.rd d):(Code.region id d p).wpIn (di v.rd) 0 P kJ a W:=by
 have U:Z l=d.size:=by simpa using x.len
 have Y:Z L=d.size+1:=by simpa using x.YN
 let c:V->V:=λh=>I L h w
 have m:∀h,h<d.size+1->L[h]? =ad (c h):=by intro h C;have:h<Z L:=G;simp only[c,aN,cO this,rv]
 have s:L[d.size]? =ad w:=by simpa using x.last
 have M:∀i,c i<=c (i+1):=by
  intro i;rcases pN i d.size with y|y
  .exact x.mono i _ _ (m i G)<|m (i+1) G
  .have q:c (i+1)=w:=by simp only[c,aN];rw[jS G];rfl
   rcases pN d.size i with z|z
   .have A:c i=w:=by simp only[c,aN];rw[jS G];rfl
    omega
   .have:i=d.size:=by omega
    subst this;have A:c d.size=w:=by simp only[c,aN,s,rv]
    omega
 have D:c 0=k:=by simp only[c,aN,x.first,rv]
 have E:c d.size=w:=by simp only[c,aN,s,rv]
 have N:∀i,i<d.size->sx P v.n d i ((I l i ([],[])).1) ((I l i ([],[])).2) (pP c i):=by intro i y;have:=x.step i G _ _ (m i G)<|m (i+1) G;rw[vF l _ i G];rw[eP]at this;exact this
 have O:∀i,i<d.size->∀r∈(I l i ([],[])).1,fold (λi=>(I l i ([],[])).2) H.kn (cw i) r.1=ad r.2:=by intro i y r K;rw[DJ l H.kn i G];rw[vF l _ i G]at K;exact x.reads i G r K
 have B:∀g W a,aJ v (·<c d.size) (fold (λi=>(I l i ([],[])).2) H.kn<|cw d.size) g W a->kJ .normal a W:=by intro g W a S;refine hQ g W a ?_;rw[x.fin];rw[DJ l H.kn d.size G,iY G,E]at S;exact S
 have X:aJ v (·<c 0) H.kn g W a:=by rw[D];exact h0
 cases p with
 |false=>exact Qn M X N O B jR
 |true=>
  let ⟨A,q⟩:=T J
  exact Qo M jQ A X N O (λi h u C f a b=>q i h u C f<|.inl ⟨a,b⟩) (λi h u C f a b=>q i h u C f<|.inr<|.inl ⟨a,b⟩) (λi h u C f a b=>q i h u C f<|.inr<|.inr ⟨a,b⟩) B jR
def Sf{k d:V}{g:E V}:∀{l:E V},HL k d g l=ah->∀a∈l,a∉g/\¬(k<=a/\a<d)
 |[],_,a,h=>by cases h
 |x::o,h,a,b=>by
  simp only[HL]at h;split at h
  .cases h
  .rename_i i;split at h
   .cases h
   .rename_i m;rcases bZ.1 b with rfl|b
    .refine⟨λf=>(by rw[Ma.2 f]at i;cases i),λf=>?_⟩;have:(dU k a&&dt a d)=ae:=by simp[Nat.ble_eq,sO,f]
     rw[this]at m;cases m
    .exact Sf h a b
def Mi{k:V}:∀{l:E V},HM k l=ah->∀b∈l,k<=b
 |[],_,b,h=>by cases h
 |x::i,h,b,a=>by
  simp only[HM]at h;split at h
  .cases h
  .rename_i g;rcases bZ.1 a with rfl|a
   .rcases pN b k with d|f
    .have:dt b k=ae:=by simpa[sO]using d
     rw[this]at g;cases g
    .exact f
   .exact Mi h b a
def Sg{l m}:Es l m=ah->∀b∈l,b∉m:=by
 induction l with
 |nil=>intro _ b h;cases h
 |cons x r f=>
  intro h b a
  simp only[Es]at h
  split at h
  .cases h
  .rename_i d;rcases bZ.1 a with rfl|a
   .intro g;rw[Ma.2 g]at d;cases d
   .exact f h b a
def akT{f g:Ft}(h:BA f g=ah) id:¬(m9 f id/\m9 g id)/\¬(m9 f id/\rF g id)/\¬(rF f id/\m9 g id):=by
 cases f with
 |n=>simp[m9,rF]
 |m r w=>
  cases g with
  |n=>simp[m9,rF]
  |m p s=>
   simp only[BA,Mj]at h
   exact⟨λa=>Sg h.1.1 id a.1 a.2,λa=>Sg h.1.2 id a.1 a.2,λa=>Sg h.2 id a.1 a.2⟩
  |c k l wl=>
   simp only[BA,Mj]at h
   have o:w=[]:=by cases w<;>simp at h⊢
   subst o
   refine⟨by simp[m9],by simp[m9],λa=>?_⟩
   let ⟨d,i⟩:=Sf h.2 id a.1
   rcases a.2 with b|b
   .exact d b.1
   .exact i b
 |c k l wl=>
  cases g with
  |n=>simp[m9,rF]
  |m r w=>
   simp only[BA,Mj]at h
   refine⟨λa=>?_,λa=>?_,λa=>?_⟩
   .have d:=Mi h.1.1 id a.2;have i:=Mi h.1.2 id a.2;rcases a.1 with b|b<;>omega
   .let ⟨d,i⟩:=Sf h.2 id a.2;rcases a.1 with b|b
    .exact d b.1
    .exact i b
   .have d:=Mi h.1.1 id a.2;have:id<k:=a.1;omega
  |c _ _ _=>simp[BA]at h
def ZX{f:E Ft}:∀{l:E (V×V)},Et f l=ae->∀i d,(i,d)∈l->BA (f.getD i .n) (f.getD d .n)=ah
 |[],_,i,d,h=>by cases h
 | (a,b)::o,h,i,d,hm=>by
  simp only[Et]at h;split at h
  .cases h
  .rename_i g;rcases bZ.1 hm with m|hm
   .cases m;exact g
   .exact ZX h i d hm
def ZY{m j:V}:∀{l:E aX}{i0 a:V}{o:aX},l[a]? =ad o->nR o=ae->i0+a<j->Nat.testBit m (i0+a)=ah->(i0+a,j)∈Ev m j l i0
 |[],i0,a,o,h,_,_,_=>by simp at h
 |x::g,i0,0,o,h,ht,b,d=>by simp only[mX,aq]at h;subst h;simp only[jv]at b d⊢;simp only[Ev,b,cd,ht,d,DW,Bool.and_self];simp
 |x::g,i0,a+1,o,h,ht,b,d=>by
  have f:=ZY (m:=m) (j:=j) (l:=g) (i0:=i0+1) (a:=a) eh ht G (by rw[(G:i0+1+a=i0+(a+1))];exact d);rw[(G:i0+1+a=i0+(a+1))]at f;simp only[Ev];rw[q G];split
  .exact lL _ f
  .exact f
def Z0{opsL:E aX}{i:V}{s:aX}(u:opsL[i]? =ad s)(b:nR s=ae):∀{ml:E V}{os:E aX}{j0 a:V}{o:aX}{m:V},ml[a]? =ad m->os[a]? =ad o->nR o=ae->i<j0+a->Nat.testBit m i=ah->(i,j0+a)∈Ew opsL ml os j0
 |[],os,j0,a,o,m,h,_,_,_,_=>by simp at h
 |g::ml,[],j0,a,o,m,_,h,_,_,_=>by simp at h
 |g::ml,x::os,j0,0,o,m,hm,f,ht,d,hb=>by simp only[mX,aq]at hm f;subst hm f;simp only[Ew,ht,cd,jv]at d⊢;refine eH _ ?_;have:=ZY (m:=g) (j:=j0) (l:=opsL) (i0:=0) (a:=i) u b G vG;simpa using this
 |g::ml,x::os,j0,a+1,o,m,hm,f,ht,d,hb=>by
  have p:=Z0 u b (ml:=ml) (os:=os) (j0:=j0+1) (a:=a) (by simpa using hm) (by simpa using f) ht G hb;rw[(G:j0+1+a=j0+(a+1))]at p;simp only[Ew];split
  .exact gI _ p
  .exact p
end
def dC(a:Rc)(f:Ex)(t:Tr)(b:Ms)(k:V)(d:E V):Prop:=match f with
 | .dk=>a= .dk t b k d
 | .gN id=>a= .gN id t b k d
 | .ret=>a= .ret t b k d
def Sh(P:bI)(dep n h:V)(i:eU)(t:Tr)(d:Ms)(k:V)(l:E V)(m:Ex)(f:Tr)(a:Ms)(g:V)(b:E V):Prop:=
 Left h dep n t d k l f a g b/\HB P n i (bm dep n t d.flatten) k m (bm dep n f a.flatten) g
section
variable{P:bI}{tt:TT}{dD:iK->E AV->Ms->au (E AV×AV)}
def Si{n}(h:n<=4096):n<=4^eT n:=by
 unfold eT;split
 .simpa using by omega
 .split
  .simpa using by omega
  .split
   .simpa using by omega
   .split
    .simpa using by omega
    .simpa using h
def BL(dep:V):∀(vs:E AV)(i:V)(t:Tr)(a:V),i+Z vs<=4^dep->a<4^dep->jx (cV dep a) (m8 dep vs i t)=match U a (dy i vs)with|some v=>ad v|none=>jx (cV dep a) t
 |[],i,t,a,_,_=>rfl
 |v::vs,i,t,a,hle,f=>by
  have g:m8 dep (v::vs) i t=m8 dep vs (i+1) (jH (cV dep i) v t):=rfl;simp only[iI]at hle;rw[g,BL dep vs (i+1) _ a G f];have d:∀(l:E AV)(b:V),i<b->U i (dy b l)=none:=by
   intro l;induction l with
   |nil=>intro _ _;rfl
   |cons o l k=>intro b m;simp only[dy,U];rw[y G];exact k (b+1) G
  simp only[dy,U];by_cases h:i=a
  .subst h;rw[q J,d vs (i+1) G];simp only[HE]
  .rw[y h];rw[Ei _ _ _ _ Ek (λn=>h<|Bs dep G f n)]
def zi:∀(vs:E AV)(i b:V)(v:AV),U b (dy i vs)=ad v->b<i+Z vs/\∀d∈v.ak,d∈cM vs
 |[],i,b,v,h=>by simp[dy,U]at h
 |x::vs,i,b,v,h=>by
  simp only[dy,U]at h;split at h
  .rename_i f;cases h;subst f;exact⟨ax,λd a=>by simp[cM,a]⟩
  .let ⟨g,h2⟩:=zi vs (i+1) b v h;exact⟨bX,λd a=>by simp[cM,h2 d a]⟩
def Z1{dep n}{t}{a}{x}{v}(h:HS tt dep n t a x=ad v):oO tt (bm dep n t a.flatten) x=ad v:=by
 cases x with
 |tmp j=>
  simp only[HS]at h
  split at h
  .rename_i b;simp only[oO,bm,sM,q<|zf b];exact h
  .cases h
 |cell j ty=>
  simp only[HS]at h
  split at h
  .rename_i b;have e:U j (bm dep n t a.flatten).sl=jx (cV dep j) t:=by show U j (dv dep n t)=_;rw[sM,q<|zf b]
   simp only[oO,e];split at h
   .rename_i d g i;simp only[i];have k:U d (bm dep n t a.flatten).mem=bw d a:=jy d a;simp only[k];split at h
    .rename_i E m o sz p l f;simp only[l,f];exact h
    .cases h
   .cases h
  .cases h
def Z2{dep n:V}{t:Tr}{b:Ms}:∀{xs:E ResultVar}{a:E (Bool×E C)},L6 tt dep n t b xs=ad a->oP tt (bm dep n t b.flatten) xs=ad a
 |[],a,h=>h
 |x::xs,a,h=>by
  simp only[L6]at h;split at h
  .rename_i v d;split at h
   .rename_i s i f g;cases h;simp only[oP,Z1 d,f,Z2 g]
   .cases h
  .cases h
def Z3{dep n}{t}{b}{xs}{v}(h:EG tt dep n t b xs=ad v):lu tt (bm dep n t b.flatten) xs=ad v:=by
 unfold EG at h;unfold lu;split at h
 .exact Z1 h
 .rename_i xs a;split at h
  .rename_i f d;cases h;have:=Z2 d;split
   .rename_i x;exact absurd J<|a x
   .rw[this];rfl
  .cases h
def Mk(own:Mem):∀(f:V)(d:E V)(a:Mem),(∀g b,U g a=ad b->U g own=ad b)->∀g b,U g (xC f own d a)=ad b->U g own=ad b
 |0,_,a,h,g,b,k=>h g b (by simpa[xC]using k)
 |f+1,[],a,h,g,b,k=>h g b (by simpa[xC]using k)
 |f+1,i::d,a,h,g,b,k=>by
  simp only[xC]at k;split at k
  .exact Mk own f d a h g b k
  .split at k
   .rename_i p m;refine Mk own f _ _ ?_ g b k;intro n x l;simp only[U]at l;split at l
    .rename_i o;cases l;subst o;rw[<-xv];exact m
    .exact h n x l
   .exact Mk own f d a h g b k
def HX{k:V}{f:Ms}:∀{l:E V},BE k f l=ae->∀d∈l,k<=d\/∃b,bw d f=ad b
 |[],_,d,h=>by cases h
 |x::m,h,d,a=>by
  simp only[BE]at h;split at h
  .rename_i g;rcases bZ.1 a with rfl|a
   .exact .inl<|cP g
   .exact HX h d a
  .split at h
   .rename_i b i;rcases bZ.1 a with rfl|a
    .exact .inr ⟨b,i⟩
    .exact HX h d a
   .cases h
def Z4{k:V}{f:Ms}:∀{l:Mem},L7 k f l=ae->∀a b,U a l=ad b->k<=a/\∀g∈b.ak,k<=g\/∃b,bw g f=ad b
 |[],_,a,b,h=>by simp[U]at h
 | (i,x)::p,h,a,b,d=>by
  simp only[L7]at h;split at h
  .rename_i m;split at h
   .rename_i n;simp only[U]at d;split at d
    .rename_i o;cases d;subst o;exact⟨cP m,HX n⟩
    .exact Z4 h a b d
   .cases h
  .cases h
def Ml{k:V}{m f:Ms}:∀{l:E V},EH k m f l=ae->∀g∈l,∀b,bw g f=ad b->∀n∈b.ak,k<=n\/∃b,bw n m=ad b
 |[],_,g,h=>by cases h
 |x::p,h,g,a=>by
  simp only[EH]at h;split at h
  .rename_i s d;split at h
   .rename_i o;rcases bZ.1 a with rfl|a
    .intro b i;rw[d]at i;cases i;exact HX o
    .exact Ml h g a
   .cases h
  .rename_i d;rcases bZ.1 a with rfl|a
   .intro b i;rw[d]at i;cases i
   .exact Ml h g a
def Z5{k:V}:∀{l:Mem},R1 k l=ae->∀a b,U a l=ad b->k<=a
 |[],_,a,b,h=>by simp[U]at h
 | (i,x)::m,h,a,b,f=>by
  have d:Bool.rec (motive:=λ_=>Bool) ah (R1 k m) (dU k i)=ae:=h;cases g:dU k i with
  |false=>rw[g]at d;cases d
  |true=>
   rw[g]at d
   simp only[U]at f
   split at f
   .rename_i e;subst e;exact cP g
   .exact Z5 d a b f
def Z6(a:Mem)(rest:Ms)(d:V):bw d (zd a rest)=match U d a with|some b=>ad b|none=>bw d rest:=by
 rw[<-jy];cases rest with
 |nil=>simp only[zd,K5,List.flatten_nil,ik];cases U d a<;>rfl
 |cons m r=>
  rw[show(zd a<|m::r).flatten=a++(m++r.flatten)by simp[zd],Hw,(ax:m++r.flatten=(m::r).flatten),jy]
  cases U d a<;>rfl
def Mm(a:V):∀(h:E V)(d:Ms),bw a (vZ h d)=if a∈h then(bw a d).map EF else bw a d
 |[],d=>by simp[vZ]
 |id::m,d=>by
  have i:=Mm a m;unfold vZ;split
  .rename_i k sz l f;rw[i,Ep,f];by_cases h2:id=a
   .subst h2;simp[f,EF]
   .have n:¬a=id:=λe=>h2 e.symm
    simp[h2,n]
  .rename_i g;rw[i];by_cases h2:a=id
   .subst h2;have e:(bw a d).map EF=bw a d:=by
     cases f:bw a d with
     |none=>rfl
     |some b=>
      cases b with
      |box k sz l=>exact absurd f<|g k sz l
      |vec _ _ _=>rfl
      |dI _ _ _=>rfl
      |fz _ _=>rfl
      |mp _ _ _=>rfl
      |it _ _ _=>rfl
    simp[e]
   .simp[h2]
def Sj:∀(d:E V)(a:Ms),lT a (vZ d a)
 |[],a=>lT.refl a
 |id::b,a=>by
  unfold vZ;split
  .exact(R2 id _ a).trans<|Sj b _
  .exact Sj b a
def Sk(b7:cq P tt=ae)(zj:∀f vs g mC a7,dD f vs g=ad (mC,a7)->ao P f mC a7){body:xD}
  (akU:∀dep n ke ew t g k wl cz t' w k' kT,n<=4^dep->ke<=k->dO dep n t k->ff g k->dC (body dep n ke ew t g k wl) cz t' w k' kT->Sh P dep n ke ew t g k wl cz t' w k' kT):v3 P (sS P tt dD body):=by
 constructor
 intro f vs g k a7 w k' wl h jI vR
 unfold sS at h
 split at h
 .rename_i mC r0 hc;dsimp only at h;generalize HU g 200 (cM vs) []=D at h;split at h
  .rename_i o;simp only[Cr.ok.injEq]at h;obtain⟨rfl,rfl,rfl,rfl⟩:=h;simp only[cD]at o;have hm:cM mC=[]:=List.isEmpty_iff.1 o.1.2;have hf:=zj _ _ _ _ _ hc;have hr:r0.ak=[]:=hf.iy;have l:∀a b,bw a (vZ D g)=ad b->∃B,bw a g=ad B/\b.ak=B.ak/\(a∉D->b=B):=λa b hb=>by
    rw[Mm]at hb;split at hb
    .rename_i hd;obtain⟨B,h0,rfl⟩:=bS.1 hb;exact⟨B,h0,ZB B,λh=>absurd hd h⟩
    .exact⟨b,hb,J,λ_=>rfl⟩
   refine⟨akn hf hm D (λa=>by rw[jy,jy,Mm]) (λa b hl=>?_) o.1.1 k,λa d=>(by rw[hr]at d;cases d),λa b hb=>?_,λa _ jR=>(by rw[Mm,y jR]),λa b hb=>(by let ⟨B,h0,_⟩:=l a b hb;exact .inr ⟨B,h0⟩),λa b hb=>(by let ⟨B,h0,oR,_⟩:=l a b hb;rw[oR];exact jI a B h0),λa d=>(by rw[hr]at d;cases d),Sj D g⟩;rotate_left
   .by_cases hd:a∈D
    .exact .inr<|Ml o.2 a hd b hb
    .let ⟨B,h0,_,he⟩:=l a b hb;rw[he hd];exact .inl h0
   unfold ZF at hl;split at hl
   .rename_i ha;rw[jy];refine⟨?_,hl⟩;let ⟨x,W,he⟩:=List.any_eq_true.1 ha;rw[kO he];exact W
   .cases hl
  .cases h
 .split at h
  .rename_i L hf;split at h
   .rename_i ew hb;split at h
    .rename_i o;simp only[cD]at o;let ⟨⟨p8,X⟩,gw⟩:=o;have X:Z vs<=L.ntmps:=cP X;have hn:L.ntmps<=4^eT L.ntmps:=Si<|cP gw;have zk:∀a,bw a ([]::g)=bw a g:=λ_=>rfl
     have lA:dO (eT L.ntmps) L.ntmps (m8 (eT L.ntmps) vs 0 .e) k:=by
      intro j v hj hv a d;rw[BL _ vs 0 .e j G G,y6]at hv;split at hv
      .rename_i u hu;cases hv;exact vR a<|(zi vs 0 j v hu).2 a d
      .cases hv
     have sy:(bm (eT L.ntmps) L.ntmps (m8 (eT L.ntmps) vs 0 .e) ([]::g:Ms).flatten).kn=St.kn ⟨dy 0 vs,g.flatten,0,[]⟩:=by
      rw[Ej];funext key;cases key with
      |m a=>simp[St.kn]
      |s j=>
       simp only[St.kn]
       by_cases hj:j<L.ntmps
       .rw[q hj,BL _ vs 0 .e j G G,y6];cases U j (dy 0 vs)<;>rfl
       .rw[y hj];cases hl:U j (dy 0 vs)with
        |none=>rfl
        |some v=>have:=(zi vs 0 j v hl).1;omega
     have fin:∀(cz:Ex)(O:Tr)(Q:Ms)(N:V)(H:E V),(cz= .dk\/cz= .ret)->dC (body (eT L.ntmps) L.ntmps k ew (m8 (eT L.ntmps) vs 0 .e) ([]::g) k []) cz O Q N H->leave tt L (eT L.ntmps) g k O Q N H= .ok a7 w k' wl->
       CX P f vs g.flatten k a7 w.flatten k'/\(∀a∈a7.ak,k<=a\/∃b,bw a g=ad b)/\(∀a b,bw a w=ad b->bw a g=ad b\/∀j∈b.ak,k<=j\/∃b,bw j g=ad b)/\
       (∀a,a<k->a∉wl->bw a w=bw a g)/\(∀a b,bw a w=ad b->k<=a\/∃B,bw a g=ad B)/\ff w k'/\(∀a∈a7.ak,a<k')/\lT g w:=by
      intro cz O Q N H he hrc p
      let ⟨hL,hG⟩:=akU _ _ _ _ _ _ _ _ _ _ _ _ _ hn (aT k) lA (show ff ([]::g) k from λa b hb=>jI a b hb) hrc
      unfold leave at p
      split at p
      .rename_i r1 v7;split at p
       .rename_i own rest;dsimp only at p;generalize hsv:xC 1000 own (r1.ak++HT rest H) []=sv at p;split at p
        .rename_i z;simp only[Cr.ok.injEq]at p;obtain⟨rfl,rfl,rfl,rfl⟩:=p;simp only[cD]at z;let ⟨⟨⟨HY,BM⟩,hc3⟩,hc4⟩:=z;have K:=Z3 v7;have akZ:=Z5 hc4;have A:=Mk own 1000 (r1.ak++HT rest H) [] (λa b h=>by simp[U]at h);rw[hsv]at A;have T:=Z4 BM;have F:∀a,bw a (own::rest)=match U a own with|some b=>ad b|none=>bw a rest:=by
          intro a;have e1:bw a (own::rest)=match mA a own with|some b=>ad b|none=>bw a rest:=rfl
          rw[e1,xv]
         have I:∀a,a<k->bw a (own::rest)=bw a rest:=by
          intro a d;rw[F];cases ho:U a own with
          |none=>rfl
          |some b=>have:=akZ a b ho;omega
         have Hb:=hL.tl;have M:∀i j b,bw j (ay i rest)=ad b->∃B,bw j (ay i g)=ad B:=by intro i j b hb;have:=Hb (i+1) j b G vG;simpa using this
         have Z7:∀j b,bw j rest=ad b->j<k/\∃B,bw j g=ad B:=by
          intro j b hb;let ⟨B,R⟩:=M 0 j b vG;have R:bw j g=ad B:=by simpa using R
          exact⟨(jI j B R).1,B,R⟩
         have l:∀a b,bw a (zd sv rest)=ad b->bw a (own::rest)=ad b/\((k<=a/\U a sv=ad b)\/(a<k/\bw a rest=ad b)):=by
          intro a b hb;rw[Z6]at hb;cases Y:U a sv with
          |some x=>
           rw[Y]at hb
           cases hb
           exact⟨by rw[F,A a b Y],.inl ⟨(T a b Y).1,J⟩⟩
          |none=>
           rw[Y]at hb
           have jh:=(Z7 a b hb).1
           exact⟨by rw[I a jh];exact hb,.inr ⟨jh,hb⟩⟩
         refine⟨?_,HX HY,?_,?_,?_,?_,?_,?_⟩
         .refine aj2 b7 hf hb p8 X he ?_ K (λa b hb=>?_)
          .rw[HB]at hG⊢;rw[sy]at hG;exact hG
          .show U a (own::rest:Ms).flatten=ad b;rw[jy];exact(l a b Me).1
         .intro a b hb;rcases(l a b hb).2 with⟨S,h2⟩|⟨S,h2⟩
          .exact .inr (T a b h2).2
          .by_cases hw:a∈H
           .exact .inr<|Ml hc3 a hw b h2
           .have:=(hL.log a S hw).2;rw[I a S,h2,zk]at this;exact .inl this.symm
         .intro a d hw;have S:=(hL.log a d hw).2;rw[I a d,zk]at S;rw[Z6];have Sl:U a sv=none:=by
           cases Y:U a sv with
           |none=>rfl
           |some x=>have:=(T a x Y).1;omega
          rw[Sl];exact S
         .intro a b hb;rcases(l a b hb).2 with⟨S,h2⟩|⟨S,h2⟩
          .exact .inl S
          .exact .inr (Z7 a b h2).2
         .intro a b hb;exact hL.ff a b (l a b hb).1
         .intro a d;have ak0:∀a∈r1.ak,a<N:=by
           have Z8:∀(x:ResultVar)(v:AV),oO tt (bm (eT L.ntmps) L.ntmps O (own::rest:Ms).flatten) x=ad v->∀a∈v.ak,a<N:=by
            intro x v W a d;cases x with
            |tmp j=>
             simp only[oO,bm,sM]at W
             split at W
             .rename_i hj;exact hL.dO j v hj W a d
             .cases W
            |cell j ty=>
             simp only[oO]at W
             split at W
             .rename_i pid off hp;split at W
              .rename_i aU bz cs sz ag HD DC;have h3:bw pid (own::rest)=ad (.box aU bz cs):=by rw[<-jy];exact HD
               exact(hL.ff pid _ h3).2 a<|yC W a d
              .cases W
             .cases W
           have xE:∀(xs:E ResultVar)(ss:E (Bool×E C)),oP tt (bm (eT L.ntmps) L.ntmps O (own::rest:Ms).flatten) xs=ad ss->∀a∈eG ss,a<N:=by
            intro xs;induction xs with
            |nil=>intro ss h a d;simp only[oP,aq]at h;subst h;simp[eG]at d
            |cons x xs ih=>
             intro ss h a d
             simp only[oP]at h
             split at h
             .rename_i v hv;split at h
              .rename_i s a7 Y hr;cases h;simp only[eG,be]at d;rcases d with d|d
               .rw[Ls Y]at d;exact Z8 x v hv a d
               .exact ih a7 hr a d
              .cases h
             .cases h
           intro a d;unfold lu at K;split at K
           .exact Z8 _ _ K a d
           .simp only[bS]at K;obtain⟨ss,hss,rfl⟩:=K;exact xE _ ss hss a d
          exact ak0 a d
         .intro i j b hi hb;have:bw j (ay i rest)=ad b:=by
           obtain⟨i,rfl⟩:∃i',i=i'+1:=⟨i-1,G⟩;cases rest with
           |nil=>simpa[zd]using hb
           |cons m a7=>simpa[zd]using hb
          exact M i j b this
        .cases p
       .cases p
      .cases p
     split at h
     .rename_i O Q N H EJ;exact fin .dk O Q N H (.inl J) EJ h
     .rename_i O Q N H EJ;exact fin .ret O Q N H (.inr J) EJ h
     .cases h
    .cases h
   .cases h
  .cases h
end
section
variable{P:bI}{tt:TT}{dD:iK->E AV->Ms->au (E AV×AV)}
def Sn{T:Fence}{n}{i}{α:Type}(H:α->Act->cx->Prop)(L:α->V){Q:Exit->Act->cx->Prop} x{a}{w}(t:H x a w)
  (round:∀x a w,H x a w->i.wpIn T n P (Exit.then (λp s=>∃u,H u p s/\L u<L x) Q) a w):(Code.loop i).wpIn T n P Q a w:=by
 intro b k K W X q
 have r:∀j x a w,L x=j->H x a w->
   ∃e p s,Q e p s/\ArrivesIn (Machine.fenced P T) P (lone (b.atR a<|.code i:: .inLoop i::k) K w) b k K e p s:=by
  intro j
  induction j using HZ with
  |_ j z=>
   intro x a w A D
   let ⟨e,f,g,hq,d⟩:=round x a w D b (.inLoop i::k) K W X q
   cases e with
   |normal=>
    let ⟨u,m,y⟩:=hq
    let ⟨v,B,C,o,h⟩:=z (L u) (A▸y) u f g J m
    exact⟨v,B,C,o,.of_steps (StepsIn.trans d<|.one (fenced_calm X q J) stepR_inLoop) h⟩
   |exit id=>exact⟨_,f,g,hq,.pass (x:= .inLoop i) J (λ_ _=> .inl ax) d⟩
   |goto l=>exact⟨_,f,g,hq,.pass (x:= .inLoop i) J (λ_ _=> .inl ax) d⟩
   |ret=>exact⟨_,f,g,hq,.pass (x:= .inLoop i) J (λ_ _=> .inl ax) d⟩
   |panic ch=>exact⟨_,f,g,hq,.pass (x:= .inLoop i) J (λ_ _=> .inl ax) d⟩
   |outgrown=>exact⟨_,f,g,hq,.pass (x:= .inLoop i) J (λ_ _=> .inl ax) d⟩
 let ⟨e,p,s,hq,d⟩:=r _ x a w J t
 exact⟨e,p,s,hq,.of_steps (.one (fenced_calm X q J) stepR_loop) d⟩
def Z9(jQ:P.follows .mixedOrders=ae)(b7:cq P tt=ae){qn:mB}(oS:v3 P qn){dep n ke}(hn:n<=4^dep){b}{L}{gs}{ps}(d:L2 dep n b.toList L=ad (gs,ps)){t}{ms}{k}{wl}(qm:ke<=k)(lA:dO dep n t k)(jI:ff ms k){t'}{lB}{k'}{kT}{fs}
  (h:xy qn tt n ke gs t ms k wl []= .ok t' lB k' kT fs) (hp:∀l,ps=ad l->Et fs.reverse l=ae) id:Sh P dep n ke (.region id b L) t ms k wl .dk t' lB k' kT:=by
 unfold L2 at d
 split at d
 .rename_i gs' So;have hgg:gs'=gs:=by
   split at d
   .cases d;rfl
   .split at d
    .cases d;rfl
    .cases d
  subst hgg;let ⟨ds,cl,kk,q,hS,⟨HY,BM⟩,Sp,hfl,K,hL⟩:=ZW b7 oS hn b.toList 0 h So ax qm lA jI;refine⟨hL,hL.le,λF hF jR g W a r=>?_⟩;subst hF;refine akS jQ hS ?_ (λg W a h'=>⟨J,g,h'⟩) r jR.region;intro hd;subst hd;simp only at d;split at d
  .rename_i y;cases d;have ho:=QQ y;refine⟨ho.1,?_⟩;have T:=hp _ J;rw[Sp]at T;simp only[ik,List.reverse_reverse]at T;intro i j Qp hj p Q;have Z':Z ds=b.size:=by simpa using hS.len
   have avu:Z q=b.size:=by simpa using hfl
   have z:∀x,x<b.size->∃o a f,b.toList[x]? =ad o/\kk[x]? =ad a/\q[x]? =ad f/\(∀p∈dw (I ds x ([],[])).1,p∈a.1)/\(∀p∈fP (I ds x ([],[])).2,p∈a.2):=by intro x hx;have h1:x<Z kk:=G;have h2:x<Z ds:=G;have h3:x<Z b.toList:=D9;have h4:x<Z q:=G;refine⟨_,_,_,cO h3,cO h1,cO h4,?_⟩;rw[vF ds _ x h2];exact BM x h2 h1
   let ⟨oi,ai,A,X,hai,D,E,w⟩:=z i G;let ⟨oj,aj,M,c,haj,N,O,B⟩:=z j hj;let ⟨⟨R,C⟩,nF⟩:=K i ai oi A hai X D;let ⟨⟨S,H⟩,htj⟩:=K j aj oj M haj c N;have e:nH (xA b.toList oi) (xA b.toList oj)=ae->lM b i j:=by
    intro pQ;refine ho.2 i j _ _ Qp hj ?_ ?_ pQ
    .rw[iN,X];rfl
    .rw[iN,c];rfl
   have U:∀x,((m9 A x/\m9 M x)\/(m9 A x/\rF M x)\/(rF A x/\m9 M x))->lM b i j:=by
    intro x hx;let ⟨Sq,hms⟩:=QP (ops:=b) b.toList [] ax ax (λk hk=>by simp at hk);have V:j<Z (pW b.toList []):=G;by_cases hb:(pW b.toList [])[j].testBit i=ae
    .exact hms j V i hb
    .exfalso;have Y:nR oi=ae:=by
      cases r:nR oi with
      |true=>rfl
      |false=>rw[nF r]at hx;simp[m9,rF]at hx
     have ak9:nR oj=ae:=by
      cases r:nR oj with
      |true=>rfl
      |false=>rw[htj r]at hx;simp[m9,rF]at hx
     have LM:=Z0 (opsL:=b.toList) X Y (ml:=pW b.toList []) (os:=b.toList) (j0:=0) (a:=j) (m:=(pW b.toList [])[j]) (cO V) c ak9 G vG;have hcf:=ZX T i (0+j) LM;have e1:q.getD i .n=A:=by rw[aN,D];rfl
     have e2:q.getD (0+j) .n=M:=by rw[eP,aN,N];rfl
     rw[e1,e2]at hcf;let ⟨n1,n2,n3⟩:=akT hcf x;rcases hx with hx|hx|hx
     .exact n1 hx
     .exact n2 hx
     .exact n3 hx
   cases p with
   |s x=>
    refine e ?_
    rcases Q with⟨u,v⟩|⟨u,v⟩|⟨u,v⟩
    .have a1:=C _<|w _ u;have a2:=H _<|B _ v;simp only[nH,xe a1 a2,DK]
    .have a1:=C _<|w _ u;have a2:=S _<|O _ v;simp only[nH,xe a1 a2,DK,DL]
    .have a1:=R _<|E _ u;have a2:=H _<|B _ v;simp only[nH,xe a1 a2,DL]
   |m x=>
    refine U x ?_
    rcases Q with⟨u,v⟩|⟨u,v⟩|⟨u,v⟩
    .exact .inl ⟨C _<|w _ u,H _<|B _ v⟩
    .exact .inr<|.inl ⟨C _<|w _ u,S _<|O _ v⟩
    .exact .inr<|.inr ⟨R _<|E _ u,H _<|B _ v⟩
  .cases d
 .cases d
def na{a:Ex}{t}{b}{k}{d}(h:dC .no a t b k d):False:=by cases a<;>simp[dC]at h
def dC.inj{g:Rc}{e f:Ex}{t i}{l a}{k m}{n b}(h:dC g e t l k n)(d:dC g f i a m b):e=f/\t=i/\l=a/\k=m/\n=b:=by cases e<;>cases f<;>simp only[dC]at h d<;>rw[h]at d<;>simp at d<;>simp[d]
def dC.get{r:Rc}:r= .no\/∃d t a k b,dC r d t a k b:=by
 cases r with
 |no=>exact .inl J
 |dk t a k b=>exact .inr ⟨.dk,t,a,k,b,J⟩
 |gN id t a k b=>exact .inr ⟨.gN id,t,a,k,b,J⟩
 |ret t a k b=>exact .inr ⟨.ret,t,a,k,b,J⟩
def EK(jQ:P.follows .mixedOrders=ae)(b7:cq P tt=ae)(zj:∀f vs Q mC a7,dD f vs Q=ad (mC,a7)->ao P f mC a7):
  ∀(f dep n T:V)(ew:eU)(t:Tr)(Q:Ms)(k:V)(wl:E V)(e:Ex)(t':Tr)(H:Ms)(k':V)(L:E V),n<=4^dep->T<=k->dO dep n t k->ff Q k->dC (iM P tt dD f dep n T ew t Q k wl) e t' H k' L->Sh P dep n T ew t Q k wl e t' H k' L:=by
 intro f
 induction f using HZ with
 |_ f0 Sr=>
 cases f0 with
 |zero=>intro dep n T ew t Q k wl e t' H k' L _ _ _ _ h;exact(na h).elim
 |succ f=>
  have ih:=Sr f G
  intro dep n T ew t Q k wl e t' H k' L hn z X j h
  cases ew with
  |skip=>
   have U:dC (.dk t Q k wl) .dk t Q k wl:=rfl
   obtain⟨rfl,rfl,rfl,rfl,rfl⟩:=dC.inj U h
   exact⟨Left.refl X j,aT _,λF q i g W a w=>wpIn_skip ⟨J,g,w⟩⟩
  |exit id=>
   have U:dC (.gN id t Q k wl) (.gN id) t Q k wl:=rfl
   obtain⟨rfl,rfl,rfl,rfl,rfl⟩:=dC.inj U h
   exact⟨Left.refl X j,aT _,λF q i g W a w=>wpIn_exit ⟨J,g,w⟩⟩
  |ret=>
   have U:dC (.ret t Q k wl) .ret t Q k wl:=rfl
   obtain⟨rfl,rfl,rfl,rfl,rfl⟩:=dC.inj U h
   exact⟨Left.refl X j,aT _,λF q i g W a w=>wpIn_ret ⟨J,g,w⟩⟩
  |seq x y=>
   have d:dC (match iM P tt dD f dep n T x t Q k wl with| .dk I u M v=>iM P tt dD f dep n T y I u M v|a7=>a7) e t' H k' L:=h
   rcases dC.get (r:=iM P tt dD f dep n T x t Q k wl)with s|⟨e1,I,u,M,v,s⟩
   .rw[s]at d;exact(na d).elim
   .have o:=ih _ _ _ _ _ _ _ _ _ _ _ _ _ hn z X j s;cases e1 with
    |dk=>
     simp only[dC]at s
     rw[s]at d
     have g2:=ih _ _ _ _ _ _ _ _ _ _ _ _ _ hn (b6 z o.1.le) o.1.dO o.1.ff d
     refine⟨o.1.trans g2.1,b6 o.2.1 g2.2.1,λF q i g W a w=>wpIn_seq<|wpIn_mono (o.2.2 F q i.seq.1 g W a w) ?_⟩
     rintro e' a' W' ⟨rfl,N,O⟩
     exact g2.2.2 F q i.seq.2 N W' a' O
    |gN id=>
     simp only[dC]at s
     rw[s]at d
     obtain⟨rfl,rfl,rfl,rfl,rfl⟩:=dC.inj (e:= .gN id) J d
     refine⟨o.1,o.2.1,λF q i g W a w=>wpIn_seq<|wpIn_mono (o.2.2 F q i.seq.1 g W a w) ?_⟩
     rintro e' a' W' ⟨rfl,N,O⟩
     exact⟨J,N,O⟩
    |ret=>
     simp only[dC]at s
     rw[s]at d
     obtain⟨rfl,rfl,rfl,rfl,rfl⟩:=dC.inj (e:= .ret) J d
     refine⟨o.1,o.2.1,λF q i g W a w=>wpIn_seq<|wpIn_mono (o.2.2 F q i.seq.1 g W a w) ?_⟩
     rintro e' a' W' ⟨rfl,N,O⟩
     exact⟨J,N,O⟩
  |cond R x y=>
   have d:dC (match iL dep n R with
    |some p=>(match jT t p with
     |some (.c<|.B b)=>(match b with
      |true=>iM P tt dD f dep n T x t Q k wl
      |false=>iM P tt dD f dep n T y t Q k wl)
     |_=> .no)
    |none=> .no) e t' H k' L:=h
   split at d
   .rename_i p hp;split at d
    .rename_i b hb;have BN:=kS (m:=Q.flatten) hp hb;split at d
     .have o:=ih _ _ _ _ _ _ _ _ _ _ _ _ _ hn z X j d;refine⟨o.1,o.2.1,λF q i g W a w=>?_⟩;have s:a8 g (.c<|.B ae) (a.eval R):=dq w _ R _ BN<|dX _ R;exact wpIn_cond_split s (λ_=>o.2.2 F q i.cond.1 g W a w)<|λe=>vY
     .have o:=ih _ _ _ _ _ _ _ _ _ _ _ _ _ hn z X j d;refine⟨o.1,o.2.1,λF q i g W a w=>?_⟩;have s:a8 g (.c<|.B ah) (a.eval R):=dq w _ R _ BN<|dX _ R;exact wpIn_cond_split s (λe=>vY)<|λ_=>o.2.2 F q i.cond.2 g W a w
    .exact(na d).elim
   .exact(na d).elim
  |block id x=>
   have d:dC (match iM P tt dD f dep n T x t Q k wl with
    | .gN Y I u M v=>(match il Y id with|true=> .dk I u M v|false=> .gN Y I u M v)
    |a7=>a7) e t' H k' L:=h
   rcases dC.get (r:=iM P tt dD f dep n T x t Q k wl)with s|⟨e1,I,u,M,v,s⟩
   .rw[s]at d;exact(na d).elim
   .have o:=ih _ _ _ _ _ _ _ _ _ _ _ _ _ hn z X j s;cases e1 with
    |dk=>
     simp only[dC]at s
     rw[s]at d
     obtain⟨rfl,rfl,rfl,rfl,rfl⟩:=dC.inj (e:= .dk) J d
     refine⟨o.1,o.2.1,λF q i g W a w=>wpIn_block<|wpIn_mono (o.2.2 F q i.block g W a w) ?_⟩
     rintro e' a' W' ⟨rfl,N,O⟩
     exact⟨J,N,O⟩
    |gN Y=>
     simp only[dC]at s
     rw[s]at d
     dsimp only at d
     split at d
     .rename_i Z;have Z:Y=id:=kO Z;subst Z;obtain⟨rfl,rfl,rfl,rfl,rfl⟩:=dC.inj (e:= .dk) J d;refine⟨o.1,o.2.1,λF q i g W a w=>wpIn_block<|wpIn_mono (o.2.2 F q i.block g W a w) ?_⟩;rintro e' a' W' ⟨rfl,N,O⟩;simp only[Ex.HA,DM,cd];exact⟨A,N,O⟩
     .rename_i Z;have fe:Y≠id:=by intro e';subst e';rw[Bt]at Z;cases Z
      obtain⟨rfl,rfl,rfl,rfl,rfl⟩:=dC.inj (e:= .gN Y) J d;refine⟨o.1,o.2.1,λF q i g W a w=>wpIn_block<|wpIn_mono (o.2.2 F q i.block g W a w) ?_⟩;rintro e' a' W' ⟨rfl,N,O⟩;simp only[Ex.HA,DM,fe,bQ];exact⟨A,N,O⟩
    |ret=>
     simp only[dC]at s
     rw[s]at d
     obtain⟨rfl,rfl,rfl,rfl,rfl⟩:=dC.inj (e:= .ret) J d
     refine⟨o.1,o.2.1,λF q i g W a w=>wpIn_block<|wpIn_mono (o.2.2 F q i.block g W a w) ?_⟩
     rintro e' a' W' ⟨rfl,N,O⟩
     exact⟨J,N,O⟩
  |loop x=>
   have step:∀D t0 C S K,dC (iM P tt dD (D+1) dep n T (.loop x) t0 C S K) e t' H k' L->dC (match iM P tt dD D dep n T x t0 C S K with| .dk I u M v=>iM P tt dD D dep n T (.loop x) I u M v|a7=>a7) e t' H k' L:=λ_ _ _ _ _ h=>h
   have ak':∀D,D<=f+1->∀t0 C S K,T<=S->dO dep n t0 S->ff C S->dC (iM P tt dD D dep n T (.loop x) t0 C S K) e t' H k' L->Left T dep n t0 C S K t' H k' L:=by
    intro D;induction D with
    |zero=>intro _ t0 C S K _ _ _ U;exact(na U).elim
    |succ D ihf=>
     intro hf t0 C S K m5 Mn Mp U
     have d:=step D t0 C S K U
     rcases dC.get (r:=iM P tt dD D dep n T x t0 C S K)with s|⟨e1,I,u,M,v,s⟩
     .rw[s]at d;exact(na d).elim
     .have o:=Sr D G _ _ _ _ _ _ _ _ _ _ _ _ _ hn m5 Mn Mp s;cases e1 with
      |dk=>
       simp only[dC]at s
       rw[s]at d
       exact o.1.trans<|ihf G I u M v (b6 m5 o.1.le) o.1.dO o.1.ff d
      |gN id=>
       simp only[dC]at s
       rw[s]at d
       obtain⟨rfl,rfl,rfl,rfl,rfl⟩:=dC.inj (e:= .gN id) J d
       exact o.1
      |ret=>
       simp only[dC]at s
       rw[s]at d
       obtain⟨rfl,rfl,rfl,rfl,rfl⟩:=dC.inj (e:= .ret) J d
       exact o.1
   have hL:=ak' (f+1) (aT _) t Q k wl z X j h
   refine⟨hL,hL.le,λF q i g W a w=>?_⟩
   refine Sn (λ(y:V×(Tr×Ms)×V×E V) a W=>y.1<=f+1/\T<=y.2.2.1/\dO dep n y.2.1.1 y.2.2.1/\ff y.2.1.2 y.2.2.1/\dC (iM P tt dD y.1 dep n T (.loop x) y.2.1.1 y.2.1.2 y.2.2.1 y.2.2.2) e t' H k' L/\∃g,aJ F (·<y.2.2.1) (bm dep n y.2.1.1 y.2.1.2.flatten).kn g W a) (λy=>y.1) (f+1,(t,Q),k,wl) ⟨aT _,z,X,j,h,g,w⟩ ?_
   rintro⟨D,⟨t0,C⟩,S,K⟩ a W ⟨hf,m5,Mn,Mp,U,g,w⟩
   simp only at hf m5 Mn Mp U w⊢
   cases D with
   |zero=>exact(na U).elim
   |succ D=>
    have d:=step D t0 C S K U
    rcases dC.get (r:=iM P tt dD D dep n T x t0 C S K)with s|⟨e1,I,u,M,v,s⟩
    .rw[s]at d;exact(na d).elim
    .have o:=Sr D G _ _ _ _ _ _ _ _ _ _ _ _ _ hn m5 Mn Mp s;refine wpIn_mono (o.2.2 F q i.loop g W a w) ?_;rintro e' a' W' ⟨rfl,N,O⟩;cases e1 with
     |dk=>
      simp only[dC]at s
      rw[s]at d
      exact⟨(D,(I,u),M,v),⟨by simp only;omega,b6 m5 o.1.le,o.1.dO,o.1.ff,d,N,O⟩,ax⟩
     |gN id=>
      simp only[dC]at s
      rw[s]at d
      obtain⟨rfl,rfl,rfl,rfl,rfl⟩:=dC.inj (e:= .gN id) J d
      exact⟨J,N,O⟩
     |ret=>
      simp only[dC]at s
      rw[s]at d
      obtain⟨rfl,rfl,rfl,rfl,rfl⟩:=dC.inj (e:= .ret) J d
      exact⟨J,N,O⟩
  |region id ops draw=>
   have oS:v3 P (sS P tt dD<|iM P tt dD f):=Sk b7 zj ih
   have d:dC (match L2 dep n ops.toList draw with
    |some (gs,none)=>(match vT (sS P tt dD<|iM P tt dD f) tt n T gs t Q k wl with
     | .ok I u M v _=> .dk I u M v
     | .no=> .no)
    |some (gs,ad ps)=>(match xy (sS P tt dD<|iM P tt dD f) tt n T gs t Q k wl []with
     | .ok I u M v fs=>(match Et fs.reverse ps with
      |true=> .dk I u M v
      |false=> .no)
     | .no=> .no)
    |none=> .no) e t' H k' L:=h
   split at d
   .rename_i gs hc;split at d
    .rename_i I u M v ft hrt;obtain⟨rfl,rfl,rfl,rfl,rfl⟩:=dC.inj (e:= .dk) J d;let ⟨fs',fE⟩:=ZU hrt [];exact Z9 jQ b7 oS hn hc z X j fE (λl hl=>by cases hl) id
    .exact(na d).elim
   .rename_i gs ps hc;split at d
    .rename_i I u M v fs fE;split at d
     .rename_i hpk;obtain⟨rfl,rfl,rfl,rfl,rfl⟩:=dC.inj (e:= .dk) J d;exact Z9 jQ b7 oS hn hc z X j fE (λl hl=>by cases hl;exact hpk) id
     .exact(na d).elim
    .exact(na d).elim
   .exact(na d).elim
  |rangeFunc _ _ _ _=>exact(na h).elim
  |scope _=>exact(na h).elim
  |label _=>exact(na h).elim
  |goto _=>exact(na h).elim
  |refuse _=>exact(na h).elim
end
def HN(s:V)(a:FH)(W:cx):FH:=λb o=>if b<s then a b o else W.cell? ⟨b,o,none⟩
section
variable{P:bI}{tt:TT}
def Ss{f}{vs}{a7 r'}{p}{k'}(h:CX P f vs [] 0 a7 p k')(hm:cM vs=[])(hr:r'.ak=[])(ha:BC (λa=>U a p) a7 r'=ae):ao P f vs r':=by
 refine⟨h.call,hr,?_⟩;intro H W w B g;have C:=vI g;have O:aJ {w0:=W,H0:=H,n:=Z vs} (·<0) (St.kn ⟨dy 0 vs,[],0,[]⟩) ⟨H,ja⟩ W (m7 w):=by
  refine⟨by simp[m7,C],J,?_,?_,?_,?_,?_,B,⟨J,J,J,aT _,λ_ _ _=>rfl⟩,cE.refl _,λ_ _ _ _=>rfl,λ_ h=>absurd h<|tN _⟩
  .intro t v I;simp only[St.kn,bS]at I;let ⟨x,l,he⟩:=I;cases he;let ⟨_,u,hu,hr,_⟩:=lv vs w 0 g t v l;have q:w[t]? =ad u:=vJ;simp only[m7,ls,tE,q,rv];exact hr
  .intro a b i;simp[St.kn,U]at i
  .intro a R b b' M i;simp[St.kn,U]at i
  .intro z x l a A;cases z with
   |m j=>simp[St.kn,U]at l
   |s t=>
    simp only[St.kn,bS]at l
    let ⟨y,S,he⟩:=l
    subst he
    let ⟨_,_,_,_,V⟩:=lv vs w 0 g t y S
    have:=V a A
    rw[hm]at this
    cases this
  .intro a x l;simp[St.kn,U]at l
 refine(h.spec _ _ W w J C O).mono ?_;rintro e c ⟨v,K,rfl,d⟩;have L:∀b o,b<W.heap.size->K.H b o=H b o:=λb o i=>d.fresh b o i<|λh=>h
 have N:vX (HN W.heap.size H c) K c (λa=>U a p):=by
  refine⟨?_,?_⟩
  .intro b o u hu;unfold HN;split
   .rename_i i;rw[<-L b o i];exact hu
   .exact d.sub b o u hu
  .intro a D F hl;have l:∃b,∃vs rest:E aR,cy (K.γ a)=ad b/\c.heap[b]? =ad (.cells (vs++rest).toArray D (0,0))/\aY K F vs/\W.heap.size<=b:=by
    rcases hl with⟨sz,hl⟩|hl
    .let ⟨b,ws,rest,Q,T,X,k,_⟩:=d.cA a (.box D sz F) A';exact⟨b,ws,rest,Q,T,X,by rcases k with k|k;exact k;exact k.elim⟩
    .let ⟨b,ws,rest,Q,T,X,k,_⟩:=d.cA a (.fz D F) A';exact⟨b,ws,rest,Q,T,X,by rcases k with k|k;exact k;exact k.elim⟩
   let ⟨b,ws,rest,Q,T,X,G⟩:=l;exact⟨b,ws,rest,Q,λo=>by simp only[HN,Nat.not_lt.2 G,bQ],T,X⟩
 have G:=d.dv 0 a7 (by simp[St.kn,U]);have Y:a8 K a7 v:=by simpa[m7]using G
 refine⟨v,HN W.heap.size H c,J,Zx N ha Y,λb o u hu=>N.le b o u<|d.le b o u hu,λb o i=>by simp[HN,i],?_,⟨d.below.os,d.below.tape,d.below.output,d.below.size,λM hk=>d.below.block M hk<|λh=>h⟩⟩;intro b o u hu;unfold HN at hu;split at hu
 .rename_i i;rw[<-L b o i]at hu;exact d.sub b o u hu
 .exact hu
def aad(a:AV):Cr->Bool
 | .ok b ms _ _=>BC (λd=>U d ms.flatten) b a
 |_=>ah
def ald{a:iK->E AV->Ms->au (E AV×AV)}(l:P.follows .mixedOrders=ae)(g:cq P tt=ae)(d:∀f vs p i m,a f vs p=ad (i,m)->ao P f i m) fuel{f}{vs}{n}
  (h:aad n (sS P tt a (iM P tt a fuel) f vs [] 0)=ae) (hm:cM vs=[]) (s:n.ak=[]):ao P f vs n:=by
 cases hx:sS P tt a (iM P tt a fuel) f vs [] 0 with
 |ok m p k wl=>
  rw[hx]at h
  have o:=(Sk g d<|EK l g d fuel).ok hx (λt b u=>by simp[bw]at u)<|λt a6=>yF
  exact Ss o.1 hm s h
 |_=>rw[hx]at h;cases h
end
def dm.re(a:dm)(W:cx)(g:Gh)(k:V):dm:={a with w0:=W,H0:=g.H,own:=λb=>a.N b/\∀o:Obj,W.heap[b]? =ad o->o.isCells=ae,k0:=k,γ0:=g.γ}
def aD.isM:aD->Bool
 | .mp _ _ _=>ae
 | .it _ _ _=>ae
 |_=>ah
def ic.Mq{l o:V->Prop}{g}{W}{u}{b}(s:∀(x:V)(vs:Array aR)(k:TypeId)(p:V×V),W.heap[x]? =ad (.cells vs k p)->l x->o x)(v:∀(x:V),b.isM=ae->l x->o x)(h:ic l g W u b):ic o g W u b:=by
 cases b with
 |box k sz cs=>
  let ⟨b,vs,rest,e,hh,i,a,d⟩:=h
  exact⟨b,vs,rest,e,hh,i,s _ _ _ _ hh a,d⟩
 |vec k T xs=>
  rcases h with h|⟨b,cap,vs,e,hh,w,h2,t,B,a,d⟩
  .exact .inl h
  .exact .inr ⟨b,cap,vs,e,hh,w,h2,t,B,s _ _ _ _ hh a,d⟩
 |dI f first caps=>exact h
 |fz k cs=>
  let ⟨b,vs,rest,e,hh,i,a,d⟩:=h
  exact⟨b,vs,rest,e,hh,i,s _ _ _ _ hh a,d⟩
 |mp H K xs=>
  let ⟨r,es,e,hh,i,a,d⟩:=h
  exact⟨r,es,e,hh,i,v _ J a,d⟩
 |it m n seen=>
  let ⟨r,b,e,C,hh,a,d⟩:=h
  exact⟨r,b,e,C,hh,v _ J a,d⟩
def H2(a:Kn):Prop:=∀d b,b.isM=ae->a (.m d)≠ad (.b b)
section
variable{F:dm}{k k':V}{σ σ':Kn}{g g':Gh}{W W':cx}{a a':Act}
def aJ.re(h:aJ F (·<k) σ g W a)(d:H2 σ):aJ (F.re W g k) (·<k) σ g W a:=by refine⟨h.size,h.defers,h.dv,λf b l=>(h.cA f b l).Mq ?_<|λ_ m=>(d f b m l).elim,h.inj,h.ak,h.dn,h.sub,⟨J,J,J,aT _,λ_ _ _=>rfl⟩,cE.refl _,λ_ _ _ _=>rfl,λf i=>⟨i,J⟩⟩;intro x vs E p n s;refine .inr ⟨s,λo ho=>?_⟩;rw[n]at ho;cases ho;rfl
def aJ.un(d:aJ F (·<k) σ g W a)(h:aJ (F.re W g k) (·<k') σ' g' W' a'):
  aJ F (·<k') σ' g' W' a'/\KeepsOthers W W'/\fL (·<k) g g':=by
 refine⟨⟨h.size,h.defers,h.dv,λn b u=>(h.cA n b u).Mq ?_ ?_,h.inj,h.ak,h.dn,h.sub,?_,d.le.trans h.le,?_,?_⟩,?_,h.le,λn m=>(h.fv n m).2⟩
 .intro x vs E p B f;rcases f with f|f
  .exact .inl<|b6 d.below.size f
  .exact f.1
 .intro x _ f;rcases f with f|f
  .exact .inl<|b6 d.below.size f
  .exact f.1
 .refine⟨h.below.os.trans d.below.os,h.below.tape.trans d.below.tape,h.below.output.trans d.below.output,b6 d.below.size h.below.size,λj s i=>?_⟩;rw[<-d.below.block j s i];refine h.below.block j (fO s d.below.size)<|λt=>?_;rcases t.1 with l|l
  .omega
  .exact i l
 .intro b o u i;rw[<-d.fresh b o u i];refine h.fresh b o (fO u d.below.size)<|λt=>?_;rcases t.1 with l|l
  .omega
  .exact i l
 .intro n m;have l:=d.fv n m;have v:=h.fv n l.1;exact⟨v.1,v.2.trans l.2⟩
 .refine⟨h.below.size,λj o s w=>?_⟩;rw[<-s];refine h.below.block j (fb.1 s).1<|λt=>?_;rw[t.2 o s]at w;cases w
def Su:Obj->Bool
 | .cells .. =>ae
 | .map .. =>ae
 | .mapIter .. =>ae
 |_=>ah
def ale{o:Obj}(h:o.isCells=ae):Su o=ae:=by cases o<;>first|rfl|cases h
structure WX(B:V)(W W':cx):Prop where
 os:W'.os=W.os
 tape:W'.tape=W.tape
 output:W'.output=W.output
 size:W.heap.size<=W'.heap.size
 same:∀(k:V)(o:Obj),W.heap[k]? =ad o->Su o=ae\/k<B->W'.heap[k]? =ad o
def aJ.wx{i:V->Prop}(h:aJ F i σ g W a)(l:WX F.w0.heap.size W W'):aJ F i σ g W' a:=by
 refine⟨h.size,h.defers,h.dv,λH b K=>?_,h.inj,h.ak,h.dn,?_,⟨l.os.trans h.below.os,l.tape.trans h.below.tape,l.output.trans h.below.output,b6 h.below.size l.size,λj u w=>?_⟩,h.le,h.fresh,h.fv⟩
 .have d:=h.cA H b K;cases b with
  |box E sz cs=>
   let ⟨b,vs,rest,e,hh,d,p,s⟩:=d
   exact⟨b,vs,rest,e,l.same _ _ hh<|.inl J,d,p,s⟩
  |vec E T xs=>
   rcases d with h|⟨b,cap,vs,e,hh,L,h2,x,P,p,s⟩
   .exact .inl h
   .exact .inr ⟨b,cap,vs,e,l.same _ _ hh<|.inl J,L,h2,x,P,p,s⟩
  |dI f first caps=>exact d
  |fz E cs=>
   let ⟨b,vs,rest,e,hh,d,p,s⟩:=d
   exact⟨b,vs,rest,e,l.same _ _ hh<|.inl J,d,p,s⟩
  |mp y z xs=>
   let ⟨r,es,e,hh,d,p,s⟩:=d
   exact⟨r,es,e,l.same _ _ hh<|.inl J,d,p,s⟩
  |it m n seen=>
   let ⟨r,b,e,Q,hh,p,s⟩:=d
   exact⟨r,b,e,Q,l.same _ _ hh<|.inl J,p,s⟩
 .intro b o v X;have B:=h.sub b o v X;let ⟨A,C,c⟩:=cells_of_cell B;rw[<-B];exact World.cell?_of_block<|(l.same _ _ C<|.inl<|ale c).trans C.symm
 .have q:j<W.heap.size:=fO u h.below.size;have t:W.heap[j]? =ad W.heap[j]:=QO q;rw[l.same j _ t (.inr u),<-h.below.block j u w,t]
def WX.refl B W:WX B W W:=⟨J,J,J,aT _,λ_ _ h _=>h⟩
def WX.trans{B}{d C f}(h:WX B d C)(b:WX B C f):WX B d f:=
 ⟨b.os.trans h.os,b.tape.trans h.tape,b.output.trans h.output,b6 h.size b.size,λk o l i=>b.same k o (h.same k o l i) i⟩
def WX.alloc B W(o:Obj):WX B W (W.alloc o):=
 ⟨J,J,J,ax,λk _ b _=>(Below.heap_alloc W o k (fb.1 b).1).trans b⟩
def WX.putObj{B}{W}{l}{o:Obj}(h:Obj)(i:W.heap[l]? =ad o)(m:Su o=ah)(n:B<=l):WX B W (W.putObj l h):=
 ⟨J,J,J,ax,λk p d b=>by
  have f:k≠l:=by
   intro e;subst e;rw[i]at d;cases d;rcases b with b|b
   .rw[m]at b;cases b
   .omega
  rw[BO f];exact d⟩
def Gh.new(g:Gh)(k:V)(u:aR):Gh:=⟨g.H,λb=>if b=k then u else g.γ b⟩
def aJ.alf(h:aJ F (·<k) σ g W a) u:aJ F (·<k+1) σ (g.new k u) W a:=by
 have f:=h.step (chg:=λ_=>False) (g':=g.new k u) (W':=W) (a':=a) ⟨⟨cE.refl _,λd b=>by have:d≠k:=Nat.ne_of_lt b;simp[Gh.new,this]⟩,λ_ _ _=>rfl,h.sub,aT _,λ_ _ _=>rfl,J,J,J⟩ [] k (H3 k) J h.defers (λ_ _=>rfl) (λ_ h=>h.elim) (λ_ _ h=>by simp[aC]at h) (λ_ _ h=>by simp[aC]at h) (λ_ _ h=>by simp[aC]at h) (λ_ _ h=>by simp[aC]at h);refine f.weaken ?_;rintro d (b|rfl)
 .exact Mg b
 .exact dJ _
end
section
variable{F:dm}{k k':V}{g g':Gh}{W W':cx}{a a':Act}{dep n aaf n':V}{t t':Tr}{m m':Mem}{ds ds':E H4}{rd rd':au V}
def aJ.swap{w}(h:aJ {F with n:=w,ds:=ds,rd:=rd} (·<k) (bm dep n t m).kn g W a)(f:aJ {F with n:=n',ds:=ds',rd:=rd'} (·<k') (bm aaf n' t' m').kn g' W' a')(H:k<=k')(L:fL (·<k) g g'):
  aJ {F with n:=w,ds:=ds,rd:=rd} (·<k') (bm dep n t m').kn g' W' a:=by
 have o:∀d x,(bm dep n t m').kn (.m d)=ad x->(bm aaf n' t' m').kn (.m d)=ad x:=λd x l=>l
 refine⟨h.size,h.defers,λs v B=>?_,λd b C=>f.cA d b<|o _ _ C,λd p b K P Q T X c=>f.inj d p b K P (o _ _ Q) (o _ _ T) X c,λu x l d i=>?_,λd x l=>f.dn d x<|o _ _ l,f.sub,f.below,f.le,f.fresh,f.fv⟩
 .exact a8.mono L (λd i=>h.ak (.s s) (.v v) B d i)<|h.dv s v B
 .cases u with
  |s j=>exact fO (h.ak (.s j) x l d i) H
  |m j=>exact f.ak (.m j) x (o _ _ l) d i
def aJ.defer{b:V->Prop}{d}{f}(h:aJ {F with n:=f,ds:=ds,rd:=rd} b d g W a) ds' rd':aJ {F with n:=f,ds:=ds',rd:=rd'} b d g W {a with defers:=ds'}:=
 ⟨h.size,J,h.dv,h.cA,h.inj,h.ak,h.dn,h.sub,h.below,h.le,h.fresh,h.fv⟩
def aJ.aag{o}(h:aJ {F with n:=o,ds:=ds,rd:=rd} (·<k) (bm dep n t m).kn g W a)(hn:n<=4^dep)(w:o=n){d}(T:d<n){v}{u}(hv:a8 g v u)(B:∀i∈v.ak,i<k):
  aJ {F with n:=o,ds:=ds,rd:=rd} (·<k) (bm dep n (jH (cV dep d) v t) m).kn g W {a with tmps:=a.tmps.setIfInBounds d u}:=by
 subst w
 have C:=Em dep o t m d v hn T
 have p:∀s x,(bm dep o (jH (cV dep d) v t) m).kn (.s s)=ad (.v x)->(s=d/\x=v)\/(s≠d/\(bm dep o t m).kn (.s s)=ad (.v x)):=by
  intro s x f;rw[C]at f;by_cases e:s=d
  .subst e;simp[bs,aC]at f;exact .inl ⟨J,f.symm⟩
  .have H:d≠s:=λh=>e h.symm
   simp[bs,aC,H]at f;exact .inr ⟨e,f⟩
 have X:∀i,(bm dep o (jH (cV dep d) v t) m).kn (.m i)=(bm dep o t m).kn (.m i):=λ_=>rfl
 refine⟨by simpa using h.size,h.defers,λs x c=>?_,λi b q=>h.cA i b q,λi K b r z A D E G=>h.inj i K b r z A D E G,λL x f i l=>?_,λi x f=>h.dn i x f,h.sub,h.below,h.le,h.fresh,h.fv⟩
 .rcases p s x c with⟨rfl,rfl⟩|⟨P,f⟩
  .have Q:s<a.tmps.size:=by rw[h.size];exact T
   simpa[Q]using hv
  .have H:d≠s:=λh=>P h.symm
   have:=h.dv s x f;simpa[kH H]using this
 .cases L with
  |m j=>exact h.ak (.m j) x f i l
  |s j=>
   cases x with
   |b _=>simp[bm,St.kn]at f
   |v y=>
    rcases p j y f with⟨_,rfl⟩|⟨_,f⟩
    .exact B i l
    .exact h.ak (.s j) _ f i l
end
section
variable{P:bI}{F:dm}{n:V}{c:eU}{st st':St}{k k':V}{e:Ex}{g:Gh}{W:cx}{a:Act}
def HB.uf(h:HB P n c st k e st' k')(p:F.n=n)(d:lS F.rd c)(l:aJ F (·<k) st.kn g W a)(f:H2 st.kn):
  c.wpIn (di F.rd) 0 P (λm o i=>m=e.HA/\∃b,aJ F (·<k') st'.kn b i o/\KeepsOthers W i/\fL (·<k) g b) a W:=by
 refine wpIn_mono (h.2 (F.re W g k) p d g W a<|l.re f) ?_
 rintro m o i ⟨rfl,b,s⟩
 exact⟨J,b,l.un s⟩
end
inductive iO(S:Type) where
 |no
 |dk (s:S)
 |gN (a:V) (s:S)
 |ret (s:S)
def iO.post{f:Type}(d:f->Act->cx->Prop):iO f->Exit->Act->cx->Prop
 | .dk s,b,a,W=>b= .normal/\d s a W
 | .gN id s,b,a,W=>b= .exit id/\d s a W
 | .ret s,b,a,W=>b= .ret/\d s a W
 | .no,_,_,_=>False
section
variable{S:Type}(leaf:eU->S->iO S)(ev:eQ->S->au Bool)
noncomputable def Sv(a:eU->S->iO S)(x b:eU)(s:S):iO S:=match a x s with
 | .dk s1=>a b s1
 |r=>r
noncomputable def Sw(a:eU->S->iO S)(d:eQ)(x f:eU)(s:S):iO S:=match ev d s with
 |some b=>(match b with
  |true=>a x s
  |false=>a f s)
 |none=> .no
noncomputable def Sx(b:eU->S->iO S)(d:V)(x:eU)(s:S):iO S:=match b x s with
 | .gN a s1=>(match il a d with
  |true=> .dk s1
  |false=> .gN a s1)
 |r=>r
noncomputable def Sy(a:eU->S->iO S)(x:eU)(s:S):iO S:=match a x s with
 | .dk s1=>a (.loop x) s1
 |r=>r
noncomputable def alg(a:eU->S->iO S):eU->S->iO S
 | .skip=> .dk
 | .label _=> .dk
 | .exit id=> .gN id
 | .ret=> .ret
 | .seq x b=>Sv a x b
 | .cond d x b=>Sw ev a d x b
 | .block id x=>Sx a id x
 | .scope x=>a x
 | .loop x=>Sy a x
 |d=>leaf d
noncomputable def gen(a:V):eU->S->iO S:=Nat.rec (motive:=λ_=>eU->S->iO S) (λ_ _=> .no) (λ_ b=>alg leaf ev b) a
end
section
variable{P:bI}{Fe:Fence}{n:V}{Q:Exit->Act->cx->Prop}{a:Act}{w:cx}
def alh{i}(h:i.wpIn Fe n P (Exit.noGoto Q) a w):(Code.scope i).wpIn Fe n P Q a w:=by
 intro b k m s t u;have o:step P (lone (b.atR a<|.code (.scope i)::k) m w)= .next (lone (b.atR a<|.code i:: .inScope i::k) m w):=step_lone_go (by simp[Go.stepG,ali,Frame.atR])
 have s2:∀a w,step P (lone (b.atR a<|.inScope i::k) m w)= .next (lone (b.atR a k) m w):=λa w=>step_lone_go (by simp[Go.stepG,ali,Frame.atR])
 have p:(lone (b.atR a<|.code (.scope i)::k) m w).fenced P Fe:=fenced_calm t u J;let ⟨e,f,g,hq,d⟩:=h b (.inScope i::k) m s t u;cases e with
 |normal=>exact⟨.normal,f,g,hq,.head p o<|StepsIn.trans d<|.one (fenced_calm t u J)<|s2 _ _⟩
 |exit id=>
  refine⟨.exit id,f,g,hq,λB v=> .head p o (d.1 B<|by simp[exitTo,v]),λx v=>?_⟩
  let ⟨k₁,C,h2⟩:=d.2 x (by simp[exitTo,v])
  exact⟨k₁,C,.head p o h2⟩
 |goto l=>exact hq.elim
 |ret=>exact⟨_,f,g,hq,.of_steps (.one p o) d⟩
 |panic ch=>exact⟨_,f,g,hq,.of_steps (.one p o) d⟩
 |outgrown=>exact⟨_,f,g,hq,.of_steps (.one p o) d⟩
end
section
variable{P:bI}{Fe:Fence}{S:Type}{leaf:eU->S->iO S}{ev:eQ->S->au Bool}{I:S->Act->cx->Prop}
def aah(k:∀o s d,leaf o s=d->d≠ .no->∀a W,I s a W->o.wpIn Fe 0 P (d.post I) a W)
  (T:∀o s b,ev o s=ad b->∀a W,I s a W->a.eval o= .bool b):
  ∀(l:V)(o:eU)(s:S)(d:iO S),gen leaf ev l o s=d->d≠ .no->∀a W,I s a W->o.wpIn Fe 0 P (d.post I) a W:=by
 intro l
 induction l using HZ with
 |_ l H=>
 cases l with
 |zero=>intro o s d h m;exact absurd h.symm m
 |succ f=>
  have t:=H f G
  intro o s d h m a W g
  cases o with
  |skip=>have h:iO.dk s=d:=h;subst h;exact wpIn_skip ⟨J,g⟩
  |label _=>have h:iO.dk s=d:=h;subst h;exact wpIn_label ⟨J,g⟩
  |exit id=>have h:iO.gN id s=d:=h;subst h;exact wpIn_exit ⟨J,g⟩
  |ret=>have h:iO.ret s=d:=h;subst h;exact wpIn_ret ⟨J,g⟩
  |seq x y=>
   have h:Sv (gen leaf ev f) x y s=d:=h
   unfold Sv at h
   refine wpIn_seq ?_
   cases hx:gen leaf ev f x s with
   |no=>rw[hx]at h;exact absurd h.symm m
   |dk s1=>
    rw[hx]at h
    refine wpIn_mono (t x s _ hx ax a W g) ?_
    rintro e u v ⟨rfl,i⟩
    exact t y s1 d h m u v i
   |gN id s1=>
    rw[hx]at h
    subst h
    refine wpIn_mono (t x s _ hx ax a W g) ?_
    rintro e u v ⟨rfl,i⟩
    exact⟨J,i⟩
   |ret s1=>
    rw[hx]at h
    subst h
    refine wpIn_mono (t x s _ hx ax a W g) ?_
    rintro e u v ⟨rfl,i⟩
    exact⟨J,i⟩
  |cond w x y=>
   have h:Sw ev (gen leaf ev f) w x y s=d:=h
   unfold Sw at h
   cases hc:ev w s with
   |none=>rw[hc]at h;exact absurd h.symm m
   |some b=>
    rw[hc]at h
    have j:=T w s b hc a W g
    cases b with
    |true=>exact wpIn_cond_split j (λ_=>t x s d h m a W g)<|λe=>vY
    |false=>exact wpIn_cond_split j (λe=>vY)<|λ_=>t y s d h m a W g
  |block id x=>
   have h:Sx (gen leaf ev f) id x s=d:=h
   unfold Sx at h
   refine wpIn_block ?_
   cases hx:gen leaf ev f x s with
   |no=>rw[hx]at h;exact absurd h.symm m
   |dk s1=>
    rw[hx]at h
    subst h
    refine wpIn_mono (t x s _ hx ax a W g) ?_
    rintro e u v ⟨rfl,i⟩
    exact⟨J,i⟩
   |gN K s1=>
    rw[hx]at h
    dsimp only at h
    refine wpIn_mono (t x s _ hx ax a W g) ?_
    rintro e u v ⟨rfl,i⟩
    cases p:il K id with
    |true=>
     rw[p]at h
     subst h
     have:=kO p
     subst this
     simp only[DM,cd]
     exact⟨J,i⟩
    |false=>
     rw[p]at h
     subst h
     have X:K≠id:=by intro q;subst q;rw[Bt]at p;cases p
     simp only[DM,X,bQ]
     exact⟨J,i⟩
   |ret s1=>
    rw[hx]at h
    subst h
    refine wpIn_mono (t x s _ hx ax a W g) ?_
    rintro e u v ⟨rfl,i⟩
    exact⟨J,i⟩
  |scope x=>
   have h:gen leaf ev f x s=d:=h
   refine alh<|wpIn_mono (t x s d h m a W g) ?_
   intro e u v Q
   cases d with
   |no=>exact Q.elim
   |dk s1=>obtain⟨rfl,i⟩:=Q;exact⟨J,i⟩
   |gN id s1=>obtain⟨rfl,i⟩:=Q;exact⟨J,i⟩
   |ret s1=>obtain⟨rfl,i⟩:=Q;exact⟨J,i⟩
  |loop x=>
   refine Sn (λ(y:V×S) a W=>y.1<=f+1/\gen leaf ev y.1 (.loop x) y.2=d/\I y.2 a W) (λy=>y.1) (f+1,s) ⟨aT _,h,g⟩ ?_
   rintro⟨C,L⟩ a W ⟨z,n,g⟩
   simp only at z n g⊢
   cases C with
   |zero=>exact absurd n.symm m
   |succ C=>
    have n:Sy (gen leaf ev C) x L=d:=n
    unfold Sy at n
    have B:=H C G
    cases hx:gen leaf ev C x L with
    |no=>rw[hx]at n;exact absurd n.symm m
    |dk s1=>
     rw[hx]at n
     refine wpIn_mono (B x L _ hx ax a W g) ?_
     rintro e u v ⟨rfl,i⟩
     exact⟨(C,s1),⟨by simp only;omega,n,i⟩,ax⟩
    |gN id s1=>
     rw[hx]at n
     subst n
     refine wpIn_mono (B x L _ hx ax a W g) ?_
     rintro e u v ⟨rfl,i⟩
     exact⟨J,i⟩
    |ret s1=>
     rw[hx]at n
     subst n
     refine wpIn_mono (B x L _ hx ax a W g) ?_
     rintro e u v ⟨rfl,i⟩
     exact⟨J,i⟩
  |region id ops draw=>exact k _ s d h m a W g
  |rangeFunc _ _ _ _=>exact k _ s d h m a W g
  |goto _=>exact k _ s d h m a W g
  |refuse _=>exact k _ s d h m a W g
end
section
variable{P:bI}{tt:TT}{dD:iK->E AV->Ms->au (E AV×AV)}
def Sz(b7:cq P tt=ae){l:mB}(s:v3 P l){dep n:V}(hn:n<=4^dep){ops:Array aX}:∀(os:E aX)(i:V){gs:E GI}{t:Tr}{u:Ms}{k:V}{L:E V}{v:Tr}{b:Ms}{m:V}{d:E V}{f:Ft},
  vT l tt n 0 gs t u k L= .ok v b m d f->vU dep n ops.toList os=ad gs->(∀T o,os[T]? =ad o->ops[i+T]? =ad o)->dO dep n t k->ff u k->
  k<=m/\dO dep n v m/\ff b m/\∀(p:dm),p.n=n->vp p.rd ops->∀(Q:Exit->Act->cx->Prop)(rest:E V) g W a,aJ p (·<k) (bm dep n t u.flatten).kn g W a->
   (∀g' W' a',aJ p (·<m) (bm dep n v b.flatten).kn g' W' a'->wpOpsIn (di p.rd) 0 P ops Q rest a' W')->wpOpsIn (di p.rd) 0 P ops Q (H5 i (Z os)++rest) a W
 |[],i,gs,t,u,k,L,v,b,m,d,f,h,hc,_,x,B=>by simp only[vU,aq]at hc;subst hc;have h':Rs.ok t u k L .n= .ok v b m d f:=h;simp only[Rs.ok.injEq]at h';obtain⟨rfl,rfl,rfl,rfl,rfl⟩:=h';exact⟨aT _,x,B,λp X C Q rest g W a c e=>e g W a c⟩
 |o::os,i,gs,t,u,k,L,v,b,m,d,f,h,hc,w,x,B=>by
  simp only[vU]at hc;split at hc
  .rename_i A K N q;cases hc;have O:vT l tt n 0 (A::K) t u k L=match vS l tt n 0 A t u k L with| .ok v b m d _=>vT l tt n 0 K v b m d| .no=> .no:=rfl
   rw[O]at h;split at h
   .rename_i t1 R k1 S f1 U;have Y:ops[i]? =ad o:=by have:=w 0 o J;simpa using this
    let ⟨⟨ks,⟨rd,wr,r,y,z,hle,_,_⟩,_,D⟩,_⟩:=ZT b7 s (bf _) hn Y N x B U;let ⟨I,M,h3,h4⟩:=Sz b7 s hn os (i+1) h q (λT o' hj=>by have:=w (T+1) o' pZ;rwa[(G:i+(T+1)=i+1+T)]at this) D.dO D.ff;refine⟨b6 hle I,M,h3,λp X C Q rest g W a c e=>?_⟩;rw[iI,Df,ln,wpOpsIn_cons];refine Kv (C i) ?_;refine r p X _ (·<k) _ g W a _ (λid I M=>G) c y<|λg' W' a' h'=>?_;rw[<-z]at h';exact h4 p X C Q rest g' W' a' (h'.weaken<|λid H=>by rcases H with H|H<;>omega) e
   .cases h
  .cases hc
noncomputable def oU(dep:V):E V->E AV->Tr->Tr
 |p::ps,v::vs,t=>oU dep ps vs<|jH (cV dep p) v t
 |_,_,t=>t
def rH:E V->E aR->Array aR->Array aR
 |p::ps,u::us,a=>rH ps us<|a.setIfInBounds p u
 |_,_,a=>a
def aai:∀(ps:E V)(b:E aR)(a:Array aR),(ps.zip b).foldl (λd(t,a)=>d.setIfInBounds t a) a=rH ps b a
 |[],b,a=>by simp[rH]
 |p::ps,[],a=>by simp[rH]
 |p::ps,u::b,a=>by simp only[List.zip_cons_cons,KR,rH];exact aai ps b<|a.setIfInBounds p u
def alj(ps:E V)(d:E aR)(a:Array aR):(ps.toArray.zip d.toArray).foldl (λb(t,a)=>b.setIfInBounds t a) a=rH ps d a:=by rw[List.zip_toArray,<-aai];simp
noncomputable def Mr(dep:V)(t:Tr):E V->au (E AV)
 |[]=>ad []
 |x::xs=>match jx (cV dep x) t,Mr dep t xs with
  |some v,ad vs=>ad<|v::vs
  |_,_=>none
def dO.oU{dep n k:V}(d:n<=4^dep):∀{ps:E V}{vs:E AV}{t:Tr},dO dep n t k->(∀p∈ps,p<n)->(∀b∈cM vs,b<k)->dO dep n (oU dep ps vs t) k
 |[],_,_,h,_,_=>by simpa[El.oU]using h
 |_::_,[],_,h,_,_=>by simpa[El.oU]using h
 |p::ps,v::vs,t,h,hp,hv=>dO.oU d (ps:=ps) (vs:=vs) (h.set d (hp p ax)<|λb a=>hv b<|eH _ a) (λf g=>hp f<|lL _ g)<|λb a=>hv b<|gI _ a
def aJ.oU{o:dm}{l dep n k:V}{ds:E H4}{rd:au V}{m:Mem}{g:Gh}{W:cx}(s:n<=4^dep)(d:l=n):∀{ps:E V}{vs:E AV}{us:E aR}{t:Tr}{a:Act},aJ {o with n:=l,ds:=ds,rd:=rd} (·<k) (bm dep n t m).kn g W a->(∀p∈ps,p<n)->fG g vs us->(∀f∈cM vs,f<k)->
  aJ {o with n:=l,ds:=ds,rd:=rd} (·<k) (bm dep n (oU dep ps vs t) m).kn g W {a with tmps:=rH ps us a.tmps}
 |[],_,_,_,_,h,_,_,_=>by simpa[El.oU,rH]using h
 |_::_,[],us,_,_,h,_,i,_=>by have i:us=[]:=i;subst i;simpa[El.oU,rH]using h
 |p::ps,v::vs,us,t,a,h,hp,i,hv=>by obtain⟨u,r,rfl,w,x⟩:=i;exact aJ.oU s d (ps:=ps) (vs:=vs) (us:=r) (h.aag s d (hp p ax) w<|λf b=>hv f<|eH _ b) (λq B=>hp q<|lL _ B) x<|λf b=>hv f<|gI _ b
def jl(fn:iK)(tmps:Array aR)(p:E V)(a d:eU)(f:V)(b:au eU):Loop:=
 {state:=if b.isNone then .ready else .done,pending:=b,fn:=fn,tmps:=tmps,params:=⟨p⟩,assign:=a,body:=d,defers:=f}
structure SY where
 t:Tr
 ms:Ms
 k:V
 pd:au eU
noncomputable def EL(a:Ms):Bool:=a.all λm=>m.all λe=>match e.2 with
 | .mp _ _ _=>ah
 | .it _ _ _=>ah
 |_=>ae
def v8{a:Type}{d:V}{b:a}:∀{m:E (V×a)},U d m=ad b->(d,b)∈m
 |[],h=>by cases h
 | (g,x)::m,h=>by
  simp only[U]at h;split at h
  .rename_i f;cases h;subst f;exact Dc
  .exact lL _<|v8 h
def EM{a}(h:EL a=ae) dep n t:H2 (bm dep n t a.flatten).kn:=by
 intro o y f e;rw[Ej]at e;simp only[bS,Info.b.injEq]at e;obtain⟨b,g,rfl⟩:=e;have i:=v8 g;obtain⟨m,k,l⟩:=List.mem_flatten.1 i;have d:=mn.1 (mn.1 h m k) _ l;cases b with
 |mp p s xs=>cases d
 |it m n seen=>cases d
 |_=>cases f
noncomputable def EN(a:Ms)(b:Rc):Rc:=match EL a with
 |true=>b
 |false=> .no
def EO{b}{d a:Rc}(h:EN b d=a)(f:a≠ .no):EL b=ae/\d=a:=by
 unfold EN at h;split at h
 .rename_i e;exact⟨e,h⟩
 .exact absurd h.symm f
noncomputable def Mt(a:Ms)(b:Rs):Rs:=match EL a with
 |true=>b
 |false=> .no
def aaj{b}{d a:Rs}(h:Mt b d=a)(f:a≠ .no):EL b=ae/\d=a:=by
 unfold Mt at h;split at h
 .rename_i e;exact⟨e,h⟩
 .exact absurd h.symm f
noncomputable def Mu(P:bI)(tt:TT)(dD:iK->E AV->Ms->au (E AV×AV))(h a i:V)(m:Tr)(p:E V)(g n:eU)(v:E AV)(l:Ms)(k:V):au (au eU×Ms×V):=
 match EN l (iM P tt dD h a i 0 g (oU a p v m) l k [])with
 | .dk t1 d o _=>(match EN d (iM P tt dD h a i 0 n t1 d o [])with
  | .dk _ b f _=>ad (none,b,f)
  | .gN id _ b f _=>ad (ad<|.exit id,b,f)
  | .ret _ b f _=>ad (ad .ret,b,f)
  | .no=>none)
 |_=>none
def Mv:E eQ->au (E V)
 |[]=>ad []
 | .tmp x::a=>(match Mv a with
  |some l=>ad<|x::l
  |none=>none)
 |_::_=>none
def aak:∀{l:E eQ}{xs:E V},Mv l=ad xs->l=xs.map aal
 |[],xs,h=>by cases h;rfl
 | .tmp x::b,xs,h=>by
  simp only[Mv]at h;split at h
  .rename_i l a;cases h;simp[aak a]
  .cases h
 | .const _::_,_,h=>by cases h
 | .func _::_,_,h=>by cases h
 | .global _::_,_,h=>by cases h
def Mw(o:aX):au (V×V×E V):=match o.dst,o.op with
 |some d,.call ⟨.value<|.tmp j,⟨args⟩,_⟩=>(match Mv args with
  |some xs=>ad (d,j,xs)
  |none=>none)
 |_,_=>none
def H6:E aX->V->E aX->au (V×aX×(V×V×E V))
 |_,_,[]=>none
 |all,i,o::os=>match Mw o with
  |some a=>ad (i,o,a)
  |none=>H6 all (i+1) os
noncomputable def gdY(dep n:V)(a:E aX)(o:aX)(t:Tr):Bool:=match o.guard with
 |none=>ae
 |some (j,want)=>(match rj a j with
  |some d=>(match dt d n,jx (cV dep d) t with
   |true,ad (.c<|.B b)=>b==want
   |_,_=>ah)
  |none=>ah)
noncomputable def aan(P:bI)(tt:TT)(dD:iK->E AV->Ms->au (E AV×AV))(m dep n kt:V)(p:V)(f:E AV->Ms->V->au (au eU×Ms×V))(a:Array aX)(s:SY):iO SY:=
 match H6 a.toList 0 a.toList with
 |some (i,o,(d,j,x))=>(match vU dep n a.toList (M i a.toList),vU dep n a.toList (ay (i+1) a.toList)with
  |some u,ad w=>(match Mt s.ms (vT (sS P tt dD<|iM P tt dD m) tt n 0 u s.t s.ms s.k [])with
   | .ok t1 g C _ _=>(match gdY dep n a.toList o t1&&dt d n&&dt j n&&x.all (λy=>dt y n)&&il (Z x) p with
    |true=>(match jx (cV dep j) t1,Mr dep t1 x with
     |some (.c<|.X h),ad v=>(match il h kt with
      |true=>(match f v g C with
       |some (pd,b,H)=>(match Mt b (vT (sS P tt dD<|iM P tt dD m) tt n 0 w (jH (cV dep d) (.c<|.B pd.isNone) t1) b H [])with
        | .ok t3 l K _ _=> .dk ⟨t3,l,K,pd⟩
        | .no=> .no)
       |none=> .no)
      |false=> .no)
     |_,_=> .no)
    |false=> .no)
   | .no=> .no)
  |_,_=> .no)
 |none=> .no
noncomputable def SA(P:bI)(tt:TT)(dD:iK->E AV->Ms->au (E AV×AV))(d dep n kt:V)(f:V)(a:E AV->Ms->V->au (au eU×Ms×V))(g:eU)(s:SY):iO SY:=match g with
 | .region id ops draw=>(match EN s.ms (iM P tt dD d dep n 0 (.region id ops draw) s.t s.ms s.k [])with
  | .dk h b i _=> .dk ⟨h,b,i,s.pd⟩
  |_=>(match draw with
   |false=>(match s.pd with
    |none=>aan P tt dD d dep n kt f a ops s
    |some _=> .no)
   |true=> .no))
 |_=> .no
noncomputable def SB(dep n:V)(a:eQ)(s:SY):au Bool:=match iL dep n a with
 |some p=>(match jT s.t p with
  |some (.c<|.B b)=>ad b
  |_=>none)
 |none=>none
def IY(h:dm)(dep n b d:V)(i:Tr)(m:Act)(f:E H4)(kt l:V)(rc:au eU->Loop)(mk:E V)(s:SY)(a:Act)(W:cx):Prop:=
 ∃g,dO dep n s.t s.k/\ff s.ms s.k/\dO b d i s.k/\aJ {h with n:=n,ds:=[],rd:=none} (·<s.k) (bm dep n s.t s.ms.flatten).kn g W a/\
  aJ {h with n:=d,ds:=f,rd:=none} (·<s.k) (bm b d i s.ms.flatten).kn g W m/\kt<s.k/\g.γ kt= .func (.yield l) #[] #[]/\W.heap[l]? =ad (.loop<|rc s.pd)/\∀D∈mk,W.heap[D]? =ad (.deferred<|ad [])
def aao{all:E aX}:∀{d:E aX}{i a:V}{o:aX}{b:V×V×E V},H6 all i d=ad (a,o,b)->Mw o=ad b/\i<=a/\d[a-i]? =ad o
 |[],i,a,o,b,h=>by simp[H6]at h
 |x::d,i,a,o,b,h=>by
  simp only[H6]at h;split at h
  .rename_i l f;simp only[aq,bK]at h;obtain⟨rfl,rfl,rfl⟩:=h;exact⟨f,aT _,ax⟩
  .let ⟨g,h2,k⟩:=aao h;refine⟨g,G,?_⟩;rw[(G:a-i=(a-(i+1))+1)];simpa using k
def alk{o}{d g}{x}(h:Mw o=ad (d,g,x)):o.dst=ad d/\∃a,o.op= .call ⟨.value<|.tmp g,⟨x.map aal⟩,a⟩:=by
 unfold Mw at h;split at h
 .rename_i k l args a i b;split at h
  .rename_i xs f;simp only[aq,bK]at h;obtain⟨rfl,rfl,rfl⟩:=h;exact⟨i,a,by rw[b,<-aak f]⟩
  .cases h
 .cases h
def My{dep n}{t:Tr}{m:Mem}{a}{v}(b:a<n)(h:jx (cV dep a) t=ad v):(bm dep n t m).kn (.s a)=ad (.v v):=by rw[Ej];simp[b,h]
variable{F:dm}{dep n oy n0:V}{t0:Tr}{a0:Act}{ds0:E H4}{kt l:V}{fnid:iK}{p:E V}{D:V}{dV bd:eU}{mk:E V}
def alm(jQ:P.follows .mixedOrders=ae)(b7:cq P tt=ae)(B:∀f vs L mC a7,dD f vs L=ad (mC,a7)->ao P f mC a7) fu(s:n0<=4^oy)(hp:∀lz∈p,lz<n0)(xF:lR dV=ae)(xG:lR bd=ae)(hl:F.w0.heap.size<=l)(qi:l∉mk)
 {v}{L i}{k k'}{pd}(h:Mu P tt dD fu oy n0 t0 p dV bd v L k=ad (pd,i,k'))
  (zk:dO oy n0 t0 k) (jI:ff L k) {g}{W}(hh:aJ {F with n:=n0,ds:=ds0,rd:=none} (·<k) (bm oy n0 t0 L.flatten).kn g W a0) {u}(hv:fG g v u) (uh:∀id∈cM v,id<k)
  (aln:W.heap[l]? =ad (.loop<|jl fnid a0.tmps p dV bd D none)) (mj:∀D∈mk,W.heap[D]? =ad (.deferred<|ad []))
  {kJ:Ending->cx->Prop} (hR:∀g' W',k<=k'->ff i k'->aJ {F with n:=n0,ds:=ds0,rd:=none} (·<k') (bm oy n0 t0 i.flatten).kn g' W' a0->fL (·<k) g g'->W'.heap[l]? =ad (.loop<|jl fnid a0.tmps p dV bd D pd)->(∀D∈mk,W'.heap[D]? =ad (.deferred<|ad []))->kJ (.returned<|.bool pd.isNone) W'):
  RoundIn (di none) 0 P l fnid (rH p u a0.tmps) dV bd W kJ:=by
 unfold Mu at h
 split at h
 .rename_i t1 t k1 Se h1;obtain⟨BP,h1⟩:=EO h1 ax;have m:∀(e:Ex) w b,EL t=ae->dC (iM P tt dD fu oy n0 0 bd t1 t k1 []) e w i k' b->(∀X:cx,X.heap[l]? =ad (.loop {jl fnid a0.tmps p dV bd D none with state:= .busy})->∀C K,(Instr.endRound l pd).run P X= .ok K C->kJ (.returned K) C->∀a5,roundPost P l kJ e.HA a5 X)->
    RoundIn (di none) 0 P l fnid (rH p u a0.tmps) dV bd W kJ:=by
   intro e w b a d Q
   have h0:aJ {F with n:=n0,ds:=[],rd:=ad l} (·<k) (bm oy n0 (oU oy p v t0) L.flatten).kn g W {tmps:=rH p u a0.tmps,defers:=[]}:=aJ.oU s J (hh.defer [] (ad l)) hp hv uh
   have c:=EK jQ b7 B fu oy n0 0 dV _ L k [] .dk t1 t k1 Se s (bf _) (dO.oU s zk hp uh) jI h1
   have g2:=EK jQ b7 B fu oy n0 0 bd t1 t k1 [] e w i k' b s (bf _) c.1.dO c.1.ff d
   refine roundIn_of_wpIn (F:=di none) A ?_
   refine wpIn_mono (F:=di<|ad l) (c.2.uf (F:={F with n:=n0,ds:=[],rd:=ad l}) J (.inr xF) h0<|EM BP _ _ _) ?_
   rintro e1 a1 W1 ⟨rfl,ga,ha,j,y⟩
   have T:=j.same _ _ aln J
   have z:(jl fnid a0.tmps p dV bd D none).state= .ready:=rfl
   refine⟨_,run_beginRound T z,?_⟩
   have E:l<W1.heap.size:=(fb.1 T).1
   have BJ:=ha.wx<|WX.putObj (.loop {jl fnid a0.tmps p dV bd D none with state:= .busy}) T J hl
   refine wpIn_mono (F:=di<|ad l) (g2.2.uf (F:={F with n:=n0,ds:=[],rd:=ad l}) J (.inr xG) BJ<|EM a _ _ _) ?_
   rintro e2 a2 W2 ⟨rfl,gb,hb,G,I⟩
   have x:=G.same _ _ (SC (o:= .loop {jl fnid a0.tmps p dV bd D none with state:= .busy}) E) J
   have M:=run_endRound (P:=P) pd x
   refine Q W2 x _ _ M ?_ a2
   have N:l<W2.heap.size:=(fb.1 x).1
   have O:fL (·<k) g gb:=⟨y.H.trans I.H,λid S=>(I.γ id<|fO S c.1.le).trans<|y.γ id S⟩
   refine hR gb _ (b6 c.1.le g2.1.le) g2.1.ff ((hh.swap hb (b6 c.1.le g2.1.le) O).wx<|WX.putObj _ x J hl) O ?_ ?_
   .rw[SC N];rfl
   .intro D' U;have V:D'≠l:=λe=>qi (e▸U)
    rw[BO V];refine G.same _ _ ?_ J;rw[BO V];exact j.same _ _ (mj D' U) J
  split at h
  .rename_i w Y k2 b d;obtain⟨a,d⟩:=EO d ax;simp only[aq,bK]at h;obtain⟨rfl,rfl,rfl⟩:=h;exact m .dk w b a d<|λX _ C K Z hr a5=>⟨K,C,Z,hr⟩
  .rename_i id w Y k2 b d;obtain⟨a,d⟩:=EO d ax;simp only[aq,bK]at h;obtain⟨rfl,rfl,rfl⟩:=h;exact m (.gN id) w b a d<|λX _ C K Z hr a5=>⟨K,C,Z,hr⟩
  .rename_i w Y k2 b d;obtain⟨a,d⟩:=EO d ax;simp only[aq,bK]at h;obtain⟨rfl,rfl,rfl⟩:=h;exact m .ret w b a d<|λX _ C K Z hr a5=>⟨K,C,Z,hr⟩
  .cases h
 .cases h
end
section
variable{P:bI}{tt:TT}{dD:iK->E AV->Ms->au (E AV×AV)}
variable{F:dm}{dep n oy n0:V}{t0:Tr}{a0:Act}{ds0:E H4}{kt l:V}{fnid:iK}{p:E V}{D:V}{dV bd:eU}{mk:E V}
def alo{rc:au eU->Loop}:∀d s b,SB dep n d s=ad b->∀a W,IY F dep n oy n0 t0 a0 ds0 kt l rc mk s a W->a.eval d= .bool b:=by
 intro d s b h a W i;let ⟨g,_,_,_,hh,_⟩:=i;unfold SB at h;split at h
 .rename_i q k;split at h
  .rename_i t o;cases h;have f:=kS (m:=s.ms.flatten) k o;exact dq hh _ d _ f<|dX _ d
  .cases h
 .cases h
def alp(jQ:P.follows .mixedOrders=ae)(b7:cq P tt=ae)(L:∀f vs ms mC a7,dD f vs ms=ad (mC,a7)->ao P f mC a7) fu(hn:n<=4^dep)(Qr:n0<=4^oy)(hp:∀lz∈p,lz<n0)(xF:lR dV=ae)(xG:lR bd=ae)(hl:F.w0.heap.size<=l)(qi:l∉mk):
  ∀ew s a7,SA P tt dD fu dep n kt (Z p) (Mu P tt dD fu oy n0 t0 p dV bd) ew s=a7->a7≠ .no->∀a W,IY F dep n oy n0 t0 a0 ds0 kt l (jl fnid a0.tmps p dV bd D) mk s a W->
   ew.wpIn (di none) 0 P (a7.post<|IY F dep n oy n0 t0 a0 ds0 kt l (jl fnid a0.tmps p dV bd D) mk) a W:=by
 intro ew s a7 h A a W hI
 unfold SA at h
 split at h
 .rename_i S w draw;let ⟨g,lA,jI,zk,hh,hh0,I,N,Q,mj⟩:=hI;split at h
  .rename_i t' lB k' kT h1;obtain⟨BP,h1⟩:=EO h1 ax;subst h;have O:=EK jQ b7 L fu dep n 0 _ s.t s.ms s.k [] .dk t' lB k' kT hn (bf _) lA jI h1;refine wpIn_mono (F:=di none) (O.2.uf (F:={F with n:=n,ds:=[],rd:=none}) J (.inl J) hh<|EM BP _ _ _) ?_;rintro e1 T W1 ⟨rfl,ga,ha,Mz,SD⟩;exact⟨J,ga,O.1.dO,O.1.ff,zk.le O.1.le,ha,hh0.swap ha O.1.le SD,fO I O.1.le,(SD.γ kt I).trans N,Mz.same _ _ Q J,λD hD=>Mz.same _ _ (mj D hD) J⟩
  .split at h
   .split at h
    .rename_i hpd;rw[hpd]at Q;unfold aan at h;split at h
     .rename_i i o d j x SE;let ⟨hy,_,hoi⟩:=aao SE;let ⟨SF,iz,bO⟩:=alk hy;have U:w[i]? =ad o:=by simpa using hoi
      have als:i<w.size:=(fb.1 U).1;split at h
      .rename_i gp gq hgp hgq;split at h
       .rename_i t1 ms1 k1 Se f1 C;obtain⟨BP,C⟩:=aaj C ax;split at h
        .rename_i Y;simp only[cD,sO,mn]at Y;let ⟨⟨⟨⟨H,df⟩,hjn⟩,hxn⟩,BQ⟩:=Y;have BQ:=kO BQ;split at h
         .rename_i e v hgj hgx;split at h
          .rename_i kL;have:=kO kL;subst this;split at h
           .rename_i pd R6 k2 aly;split at h
            .rename_i t3 ms3 k3 wl3 f3 K;obtain⟨alz,K⟩:=aaj K ax;subst h;have oS:v3 P (sS P tt dD<|iM P tt dD fu):=Sk b7 L<|EK jQ b7 L fu;let ⟨Q6,alA,alB,alC⟩:=Sz b7 oS hn (ops:=w) (M i w.toList) 0 C hgp (λj o' hj=>by
              rw[GU]at hj;split at hj
              .simpa using hj
              .cases hj) lA jI
             refine wpIn_region ?_;have R:cw w.size=H5 0 (M i w.toList).length++(i::(H5 (i+1) (ay (i+1) w.toList).length++[])):=by rw[ik,Kx];have e1:(M i w.toList).length=i:=bX;have e2:(ay (i+1) w.toList).length=w.size-(i+1):=ax;rw[e1,e2,<-Df];have:w.size-(i+1)+1=w.size-i:=G;rw[this];have:=List.range'_append (s:=0) (m:=i) (n:=w.size-i) (step:=1);simp only[iG,eP]at this;rw[this];congr 1;omega
             rw[R];refine alC ({F with n:=n,ds:=[],rd:=none}.re W g s.k) J (λ_ _ _=> .inl J) _ _ g W a (hh.re<|EM BP _ _ _) ?_;intro O W1 T SH;let ⟨hA,EP,MA⟩:=hh.un SH;have hC:=hh0.swap hA Q6 MA;have alD:=zk.le Q6;have hvv:∀(x:E V)(v:E AV),(∀y∈x,y<n)->Mr dep t1 x=ad v->fG O v (x.map λy=>T.tmps.getD y undef)/\∀S∈cM v,S<k1:=by
              intro x;induction x with
              |nil=>intro v _ h;cases h;exact⟨J,λS a6=>wY⟩
              |cons y x ih=>
               intro v hb h
               simp only[Mr]at h
               split at h
               .rename_i u vs hu vR;cases h;have hy:=hb y ax;let ⟨i1,i2⟩:=ih vs (λz hz=>hb z<|lL _ hz) vR;refine⟨⟨_,_,J,hA.dv y u<|My hy hu,i1⟩,λS a6=>?_⟩;rcases be.1 a6 with h|h
                .exact hA.ak (.s y) (.v u) (My hy hu) S h
                .exact i2 S h
               .cases h
             let ⟨hv,uh⟩:=hvv x v hxn hgx;have SI:T.tmps.getD j undef= .func (.yield l) #[] #[]:=by have h1:a8 O (.c<|.X e) (T.tmps.getD j undef):=hA.dv j _<|My hjn hgj;have h2:T.tmps.getD j undef=O.γ e:=h1;rw[h2,MA.γ e I,N]
             show wpOpsIn (di none) 0 P w _ (i::_) T W1;rw[wpOpsIn_cons];unfold wpOpIn;rw[U];have alF:gx o (yielded w T.tmps)=ae:=by
              unfold gdY at H;unfold gx;split at H
              .rename_i hg;rw[hg]
              .rename_i gj want hg;rw[hg];split at H
               .rename_i tg htg;split at H
                .rename_i b Hz mr;have:=hA.dv tg _<|My (cP Hz) mr;simp only[DG htg this];simpa using H
                .cases H
               .cases H
             simp only[alF,cd];refine⟨λ_ _=>trivial,?_⟩;have hex:(o.semAt (di none).round T.eval).run P W1= .ok (.round l fnid (rH p (x.map λy=>T.tmps.getD y undef) a0.tmps) dV bd) W1:=by
              show(execOp T.eval o).run P W1=_;have hy:=run_yield (P:=P) (args:=⟨x.map λy=>T.tmps.getD y undef⟩) (EP.same _ _ Q J) (by show Z (x.map _)=Z p;rw[cT];exact BQ);rw[execOp,bO];have e1:T.eval (.tmp j)= .func (.yield l) #[] #[]:=SI;have e2:(⟨x.map aal⟩:Array eQ).map T.eval=⟨x.map λy=>T.tmps.getD y undef⟩:=by apply Du;simp[Act.eval]
              simp only[resolve,e1,e2,xq,pure_bind,invoke];rw[<-alj,Array.empty_append];exact hy
             rw[hex];simp only[Oper.uponIn_round];refine⟨λhh=>De,?_⟩;refine alm (mk:=mk) (D:=D) jQ b7 L fu Qr hp xF xG hl qi aly alD alB hC hv uh (EP.same _ _ Q J) (λD hD=>EP.same _ _ (mj D hD) J) ?_;intro g2 W2 aas alH hC2 hG2 alI alJ;simp only;have zl:=(hA.swap hC2 aas hG2).aag (dep:=dep) (n:=n) hn J df (v:= .c<|.B pd.isNone) (u:= .bool pd.isNone) J<|λS a6=>wY;have alK:dO dep n (jH (cV dep d) (.c<|.B pd.isNone) t1) k2:=(alA.le aas).set hn df<|λS a6=>wY;let ⟨alL,alM,alN,alO⟩:=Sz b7 oS hn (ops:=w) (ay (i+1) w.toList) (i+1) K hgq (λj o' hj=>by rw[tJ]at hj;simpa using hj) alK alH;rw[SF];refine alO ({F with n:=n,ds:=[],rd:=none}.re W2 g2 k2) J (λ_ _ _=> .inl J) _ _ g2 W2 _ (zl.re<|EM alz _ _ _) ?_;intro g3 W3 a3 SJ;let ⟨MB,MC,SK⟩:=zl.un SJ;have Lb:s.k<=k3:=G;refine⟨J,g3,alM,alN,zk.le Lb,MB,hC2.swap MB alL SK,fO I Lb,?_,MC.same _ _ alI J,λD hD=>MC.same _ _ (alJ D hD) J⟩;rw[SK.γ e G,hG2.γ e G,MA.γ e I,N]
            .exact absurd h.symm A
           .exact absurd h.symm A
          .exact absurd h.symm A
         .exact absurd h.symm A
        .exact absurd h.symm A
       .exact absurd h.symm A
      .exact absurd h.symm A
     .exact absurd h.symm A
    .exact absurd h.symm A
   .exact absurd h.symm A
 .exact absurd h.symm A
end
def jz(a:V):H4:={target:= .collected a,args:= #[]}
structure SR where
 t:Tr
 ms:Ms
 k:V
noncomputable def ME(s:SR)(a:SY):iO SR:=match a.pd with
 |none=> .dk ⟨s.t,a.ms,a.k⟩
 |some (.exit id)=> .gN id ⟨s.t,a.ms,a.k⟩
 |some .ret=> .ret ⟨s.t,a.ms,a.k⟩
 |_=> .no
noncomputable def aav(P:bI)(g:TT)(b:iK->E AV->Ms->au (E AV×AV))(h l dep n:V)(p:E V)(d m:eU)(i:E AV)(a:Func)(o:eU)(s:SR):iO SR:=
 match a.name != "runtime.NumGoroutine" &&dU (Z i+1) a.ntmps&&dU a.ntmps 4096&&a.results.isEmpty with
 |true=>(match gen (SA P g b h (eT a.ntmps) a.ntmps s.k (Z p)<|Mu P g b h dep n s.t p d m) (SB (eT a.ntmps) a.ntmps) l o ⟨m8 (eT a.ntmps) (.c (.X s.k)::i) 0 .e,s.ms,s.k+1,none⟩with
  | .dk f=>ME s f
  | .ret f=>ME s f
  |_=> .no)
 |false=> .no
noncomputable def aaw(P:bI)(d:TT)(a:iK->E AV->Ms->au (E AV×AV))(g h dep n:V)(p:E V)(b i:eU)(k:V)(s:SR):iO SR:=
 match bw k s.ms with
 |some (.dI f [] caps)=>(match rz caps with
  |some ws=>(match P.funcs[f]? with
   |some fn=>(match fn.body with
    |some cb=>aav P d a g h dep n p b i ws fn cb s
    |none=> .no)
   |none=> .no)
  |none=> .no)
 |_=> .no
noncomputable def MF(P:bI)(d:TT)(a:iK->E AV->Ms->au (E AV×AV))(f h dep n:V)(i:eU)(s:SR):iO SR:=match i with
 | .region id ops draw=>(match EN s.ms (iM P d a f dep n 0 (.region id ops draw) s.t s.ms s.k [])with
  | .dk l b m _=> .dk ⟨l,b,m⟩
  |_=> .no)
 | .rangeFunc g ⟨p⟩ dV bd=>(match p.all (λq=>dt q n)&&lR dV&&lR bd with
  |true=>(match iL dep n g with
   |some o=>(match jT s.t o with
    |some (.c<|.X id)=>aaw P d a f h dep n p dV bd id s
    |_=> .no)
   |none=> .no)
  |false=> .no)
 |_=> .no
noncomputable def MG(dep n:V)(a:eQ)(s:SR):au Bool:=match iL dep n a with
 |some p=>(match jT s.t p with
  |some (.c<|.B b)=>ad b
  |_=>none)
 |none=>none
def IR(b:dm)(dep n:V)(s:SR)(a:Act)(W:cx):Prop:=
 ∃(g:Gh)(mk:E V),dO dep n s.t s.k/\ff s.ms s.k/\aJ {b with n:=n,ds:=mk.map jz,rd:=none} (·<s.k) (bm dep n s.t s.ms.flatten).kn g W a/\
  (∀D∈mk,W.heap[D]? =ad (.deferred<|ad [])/\b.w0.heap.size<=D)/\mk.Nodup
section
variable{P:bI}{tt:TT}{dD:iK->E AV->Ms->au (E AV×AV)}{F:dm}
def aJ.args{nn dep n k d l}{t}{m:Mem}{g}{W}{a}{ds}{rd}(h:aJ {F with n:=nn,ds:=ds,rd:=rd} (·<k) (bm dep n t m).kn g W a){vs}{o}(T:fG g vs o)(H:∀p∈cM vs,p<k)(hle:Z vs<=l)(BR:l<=4^d):
  aJ {F with n:=l,ds:=[],rd:=none} (·<k) (bm d l (m8 d vs 0 .e) m).kn g W {tmps:=o.toArray++Array.replicate (l-o.toArray.size) undef,defers:=[]}:=by
 have c:=vI T
 have w:∀j v,(bm d l (m8 d vs 0 .e) m).kn (.s j)=ad (.v v)->U j (dy 0 vs)=ad v:=by
  intro j v f;rw[Ej]at f;simp only at f;by_cases B:j<l
  .rw[q B,BL _ vs 0 .e j G G,y6]at f;cases hl:U j (dy 0 vs)with
   |none=>rw[hl]at f;simp at f
   |some x=>rw[hl]at f;simp only[vH,aq,Info.v.injEq]at f;rw[f]
  .rw[y B]at f;simp at f
 refine⟨bX,J,λj v f=>?_,h.cA,h.inj,λK x L p i=>?_,h.dn,h.sub,h.below,h.le,h.fresh,h.fv⟩
 .let ⟨_,u,hu,Q,_⟩:=lv vs o 0 T j v<|w j v f;have C:o[j]? =ad u:=vJ;have jh:j<Z o:=(pS.1 C).1;rw[ls,tO yR];simpa[C]using Q
 .cases K with
  |m j=>exact h.ak (.m j) x L p i
  |s j=>
   cases x with
   |b _=>simp[bm,St.kn]at L
   |v X=>exact H p<|(zi vs 0 j X<|w j X L).2 p i
def alP{dep n}:∀d s b,MG dep n d s=ad b->∀a W,IR F dep n s a W->a.eval d= .bool b:=by
 intro d s b h a W i;let ⟨g,mk,_,_,hh,_⟩:=i;unfold MG at h;split at h
 .rename_i q k;split at h
  .rename_i o l;cases h;have f:=kS (m:=s.ms.flatten) k l;exact dq hh _ d _ f<|dX _ d
  .cases h
 .cases h
def alQ(jQ:P.follows .mixedOrders=ae)(b7:cq P tt=ae)(zj:∀f vs ms mC a7,dD f vs ms=ad (mC,a7)->ao P f mC a7) fu fy{dep n}(hn:n<=4^dep):
  ∀ew s a7,MF P tt dD fu fy dep n ew s=a7->a7≠ .no->∀a W,IR F dep n s a W->ew.wpIn (di none) 0 P (a7.post<|IR F dep n) a W:=by
 intro ew s a7 h q a W hI
 unfold MF at h
 split at h
 .rename_i id ops draw;let ⟨g,mk,lA,jI,hh,K,jR⟩:=hI;split at h
  .rename_i t' lB k' kT V;obtain⟨BP,V⟩:=EO V ax;subst h;have g1:=EK jQ b7 zj fu dep n 0 _ s.t s.ms s.k [] .dk t' lB k' kT hn (bf _) lA jI V;refine wpIn_mono (F:=di none) (g1.2.uf (F:={F with n:=n,ds:=mk.map jz,rd:=none}) J (.inl J) hh<|EM BP _ _ _) ?_;rintro e1 a1 z ⟨rfl,ga,ha,Mz,SD⟩;exact⟨J,ga,mk,g1.1.dO,g1.1.ff,ha,λD y=>⟨Mz.same _ _ (K D y).1 J,(K D y).2⟩,jR⟩
  .exact absurd h.symm q
 .rename_i SL p o bd;let ⟨g,mk,lA,jI,hh,K,jR⟩:=hI;split at h
  .rename_i aax;simp only[cD,sO,mn]at aax;let ⟨⟨hp,xF⟩,xG⟩:=aax;split at h
   .rename_i pg hpg;split at h
    .rename_i id a6;unfold aaw at h;split at h
     .rename_i f caps xB;split at h
      .rename_i ws A0;split at h
       .rename_i fn BS;split at h
        .rename_i cb w5;unfold aav at h;split at h
         .rename_i I;simp only[cD]at I;let ⟨⟨⟨p8,M⟩,gw⟩,Hi⟩:=I;have M:Z ws+1<=fn.ntmps:=cP M;have BR:fn.ntmps<=4^eT fn.ntmps:=Si<|cP gw;have Y:mZ P f=ae:=by simp[mZ,BS,w5,p8]
          have BN:a.eval SL=g.γ id:=dq hh _ SL _ (kS (m:=s.ms.flatten) hpg a6)<|dX _ SL;have tx:(bm dep n s.t s.ms.flatten).kn (.m id)=ad (.b<|.dI f [] caps):=by show(U id s.ms.flatten).map Info.b=_;rw[jy,xB];rfl
          let ⟨SM,wv,hγ,N,MH⟩:=hh.cA id _ tx;have N:SM=[]:=N;subst N;have Dg:=Hs A0 MH;have aay:∀j∈cM ws,j<s.k:=λj B=>hh.ak (.m id) _ tx j<|gI _<|Bn A0 j B
          refine wpIn_rangeFunc (F:=di none)<|λd _=>?_;obtain⟨z,O⟩:∃z,(W.alloc<|.deferred<|ad []).alloc (.loop {state:= .ready,pending:=none,fn:=d,tmps:=a.tmps,params:=⟨p⟩,assign:=o,body:=bd,defers:=W.heap.size})=z:=⟨_,J⟩;refine⟨W.heap.size+1,[jz W.heap.size],z,{target:= .fn (.func f) wv.toArray,args:= #[.func (.yield<|W.heap.size+1) #[] #[]]},z,f,#[.func (.yield<|W.heap.size+1) #[] #[]]++wv.toArray,z,?_,?_,λ_ _=>trivial,Lx Y,λhh=>De,?_⟩
          .rw[<-O];exact run_enterLoop_outer d a.tmps ⟨p⟩ o bd
          .simp only[resolve,BN,hγ,xq];simp[Act.eval]
          .have SN:WX F.w0.heap.size W z:=by rw[<-O];exact(WX.alloc _ _ _).trans (WX.alloc _ _ _)
           have hB:F.w0.heap.size<=W.heap.size:=hh.below.size;have SO:z.heap[W.heap.size]? =ad (.deferred<|ad []):=by rw[<-O];exact(Below.heap_alloc _ _ _ ax).trans<|SP W _
           have H7:z.heap[W.heap.size+1]? =ad (.loop<|jl d a.tmps p o bd W.heap.size none):=by rw[<-O];have:=SP (w:=W.alloc<|.deferred<|ad [])<|.loop {state:= .ready,pending:=none,fn:=d,tmps:=a.tmps,params:=⟨p⟩,assign:=o,body:=bd,defers:=W.heap.size};rwa[World.size_alloc]at this
           have H8:∀D∈W.heap.size::mk,z.heap[D]? =ad (.deferred<|ad []):=by
            intro D y;rcases bZ.1 y with rfl|y
            .exact SO
            .have V:=(K D y).1;rw[<-O];exact(Below.heap_alloc _ _ _<|by have:=(fb.1 V).1;simp;omega).trans<|(Below.heap_alloc _ _ _ (fb.1 V).1).trans V
           have qi:W.heap.size+1∉W.heap.size::mk:=by intro hc;have:=H8 _ hc;rw[H7]at this;cases this
           have ER:=(hh.alf<|.func (.yield<|W.heap.size+1) #[] #[]).wx SN;have aaz:(g.new s.k<|.func (.yield<|W.heap.size+1) #[] #[]).γ s.k= .func (.yield<|W.heap.size+1) #[] #[]:=by simp[Gh.new]
           have zm:fL (·<s.k) g (g.new s.k<|.func (.yield<|W.heap.size+1) #[] #[]):=⟨cE.refl _,λj B=>by have:j≠s.k:=Nat.ne_of_lt B;simp[Gh.new,this]⟩;have SQ:fG (g.new s.k<|.func (.yield<|W.heap.size+1) #[] #[]) (.c (.X s.k)::ws) (.func (.yield<|W.heap.size+1) #[] #[]::wv):=by
            refine⟨_,_,J,aaz.symm,?_⟩;have key:∀{xs:E AV}{vv:E aR},fG g xs vv->(∀j∈cM xs,j<s.k)->fG (g.new s.k<|.func (.yield<|W.heap.size+1) #[] #[]) xs vv:=by
             intro xs;induction xs with
             |nil=>intro vv h _;exact h
             |cons x xs ih=>
              rintro vv ⟨u,a7,rfl,V,h2⟩ hb
              exact⟨u,a7,J,a8.mono zm (λj B=>hb j<|eH _ B) V,ih h2<|λj B=>hb j<|gI _ B⟩
            exact key Dg aay
           have aaA:∀j∈cM (.c (.X s.k)::ws),j<s.k+1:=by
            intro j B;simp only[cM,be]at B;rcases B with B|B
            .have:j=s.k:=by simpa[AV.ak,C.ak]using B
             omega
            .exact Mg<|aay j B
           have SS:=ER.args SQ aaA (by simpa using M) BR;have alS:dO (eT fn.ntmps) fn.ntmps (m8 (eT fn.ntmps) (.c (.X s.k)::ws) 0 .e) (s.k+1):=by
            intro j v B hv i hi;rw[BL _ _ 0 .e j bX G,y6]at hv;split at hv
            .rename_i u hu;cases hv;exact aaA i<|(zi _ 0 j v hu).2 i hi
            .cases hv
           have zn:IY F (eT fn.ntmps) fn.ntmps dep n s.t a (mk.map jz) s.k (W.heap.size+1) (jl d a.tmps p o bd W.heap.size) (W.heap.size::mk) ⟨m8 (eT fn.ntmps) (.c (.X s.k)::ws) 0 .e,s.ms,s.k+1,none⟩ {tmps:=(.func (.yield<|W.heap.size+1) #[] #[]::wv).toArray++Array.replicate (fn.ntmps-(.func (.yield<|W.heap.size+1) #[] #[]::wv).toArray.size) undef,defers:=[]} z:=
            ⟨_,alS,jI.le<|ZR _,lA.le<|ZR _,SS,ER,dJ _,aaz,H7,H8⟩
           have MI:(#[.func (.yield<|W.heap.size+1) #[] #[]]++wv.toArray:Array aR)=(.func (.yield<|W.heap.size+1) #[] #[]::wv).toArray:=ax;rw[MI];refine callsIn_of_wp (F:=di none) BS w5 A ?_;have aaB:=aah (P:=P) (Fe:=di none) (alp (F:=F) (t0:=s.t) (mk:=W.heap.size::mk) (ds0:=mk.map jz) (a0:=a) (kt:=s.k) (l:=W.heap.size+1) (fnid:=d) (D:=W.heap.size) jQ b7 zj fu BR hn hp xF xG (by omega:F.w0.heap.size<=W.heap.size+1) qi) alo fy cb;have LH:∀(L:SY)(a':Act)(Q:cx),ME s L=a7->IY F (eT fn.ntmps) fn.ntmps dep n s.t a (mk.map jz) s.k (W.heap.size+1) (jl d a.tmps p o bd W.heap.size) (W.heap.size::mk) L a' Q->
             a'.defers=[]/\∃v,(results fn a'.tmps).run P Q= .ok v Q/\rangePost (di none) 0 P (W.heap.size+1) (a7.post<|IR F dep n) {a with defers:=[jz W.heap.size]++a.defers} (.returned v) Q:=by
            intro L a' Q hf R
            let ⟨g',avy,alT,alU,MJ,SU,avz,avA,H,MK⟩:=R
            refine⟨MJ.defers,.tuple #[],?_,?_⟩
            .have ML:fn.results= #[]:=by simpa using Hi
             simp[results,ML]
            .have jh:W.heap.size+1<Q.heap.size:=(fb.1 H).1;refine⟨L.pd,_,run_endLoop (P:=P) H (by cases L.pd<;>simp[jl]),?_⟩;have SV:WX F.w0.heap.size Q (Q.putObj (W.heap.size+1)<|.loop {jl d a.tmps p o bd W.heap.size L.pd with state:= .exhausted}):=WX.putObj _ H J G;have T:IR F dep n ⟨s.t,L.ms,L.k⟩ {a with defers:=[jz W.heap.size]++a.defers} (Q.putObj (W.heap.size+1)<|.loop {jl d a.tmps p o bd W.heap.size L.pd with state:= .exhausted}):=by
              refine⟨g',W.heap.size::mk,alU,alT,?_,λD y=>⟨?_,?_⟩,?_⟩
              .have h5:=((SU.wx SV).defer (jz W.heap.size::mk.map jz) none);have h6:a.defers=mk.map jz:=hh.defers;rw[h6];exact h5
              .have fe:D≠W.heap.size+1:=λe=>qi (e▸y)
               rw[BO fe];exact MK D y
              .rcases bZ.1 y with rfl|y
               .exact hB
               .exact(K D y).2
              .refine AL.2 ⟨λhc=>?_,jR⟩;have:=(fb.1 (K _ hc).1).1;omega
             unfold ME at hf;split at hf
             .rename_i S;rw[S]at T⊢;subst hf;exact⟨J,T⟩
             .rename_i tY S;rw[S]at T⊢;subst hf;exact wpIn_exit ⟨J,T⟩
             .rename_i S;rw[S]at T⊢;subst hf;exact wpIn_ret ⟨J,T⟩
             .exact absurd hf.symm q
           split at h
           .rename_i L hg;refine wpIn_mono (F:=di none) (aaB _ _ hg ax _ _ zn) ?_;rintro e a' Q ⟨rfl,R⟩;exact LH L a' Q h R
           .rename_i L hg;refine wpIn_mono (F:=di none) (aaB _ _ hg ax _ _ zn) ?_;rintro e a' Q ⟨rfl,R⟩;exact LH L a' Q h R
           .exact absurd h.symm q
         .exact absurd h.symm q
        .exact absurd h.symm q
       .exact absurd h.symm q
      .exact absurd h.symm q
     .exact absurd h.symm q
    .exact absurd h.symm q
   .exact absurd h.symm q
  .exact absurd h.symm q
 .exact absurd h.symm q
end
end Go.El
