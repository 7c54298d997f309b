/- Contract: the vectors that a matrix modulo p sends to 0. Own work; no condition. -/
import Derived.Test.YtkkccchkmcjcpaaGreatV8
import Derived.Test.YtkkccchkmcjcpaaGreatV5
import Derived.Test.YtkkccchkmcjcpaaGreatV6
set_option linter.all false
set_option maxHeartbeats 16000000
set_option maxRecDepth 100000
open Bool renaming false->ah
open Classical renaming choose->wm
open Go.El renaming rr->e,cS->N,vL->q,gy->L,cI->D,re->o,auI->z,y6->u,rb->t,kZ->w,ps->h
open Go.IntKind renaming wrap->ao
open Go.Proofs.Tryz renaming prog->j
open Int renaming toNat->ad,natAbs->aq
open List renaming length->G,getD->Y,range->be,replicate->bh,take->y,drop->aE
open List.Pairwise renaming nil->wu
open List.Perm renaming swap->amz
open _root_ renaming List->V,Nat->I,Int->Z
namespace Go.El
open Go Go.Proofs
def zl(l:V I):V Z:=l.map<|λ(x:I)=>((x:I):Z)
def Mv l:G (zl l)=G l:=cL _
def aac l(x:I):zl l++[(x:Z)]=zl (l++[x]):=by simp[zl]
def aad l i:Y (zl l) i 0=(Y l i 0:I):=by unfold zl;rw[aF,gj,aF];cases l[i]? <;>rfl
def r9{r a}(b:a<r):((be r).map λi=>C.X<|1+i)[0+ad ((a:Z))*1]? =some (.X<|1+a):=by rw[aV,dU,kI,gj,jW b];rfl
def alH p(F:I->V Z) k b a:iz p F k b a a=F a:=by unfold iz;rw[M (λh=>S)]
def alI p(F:I->V Z) k a b:iz p F k a b k=F k:=by unfold iz;rw[M (λh=>h.2.1 J)]
def alJ p(F:I->V Z) k a:iz p F k a 0=F:=funext λr=>by unfold iz;rw[M (λh=>S)]
def aae p(F:I->V Z){k c b}(d:¬(b≠k/\Y (F b) c 0≠0)):iz p F k c (b+1)=iz p F k c b:=funext λr=>by
 unfold iz;by_cases e:r=b
 .subst e;rw[M (λa=>d a.2),M<|λa=>d a.2]
 .by_cases a:r<b/\r≠k/\Y (F r) c 0≠0
  .rw[s a,s ⟨S,a.2⟩]
  .rw[M a,M<|λf=>a ⟨S,f.2⟩]
def alK p(F:I->V Z){k j t}(a:t≠k/\Y (F t) j 0≠0):fI (iz p F k j t) t (l6 p (Y (F t) j 0) (F t) (F k)<|G<|F t)=iz p F k j (t+1):=funext λr=>by
 unfold fI iz;by_cases e:r=t
 .subst e;rw[s J,s ⟨S,a⟩]
 .rw[M e];by_cases h2:r<t/\r≠k/\Y (F r) j 0≠0
  .rw[s h2,s ⟨S,h2.2⟩]
  .rw[M h2,M<|λb=>h2 ⟨S,b.2⟩]
def zE(F:I->V Z) k x:fI F k x k=x:=by unfold fI;rw[s J]
def BM(F:I->V Z){k a}x(b:a≠k):fI F k x a=F a:=by unfold fI;rw[M b]
def aaf(F:I->V Z) k:fI F k (F k)=F:=funext λq=>by
 unfold fI;split
 .rename_i e;rw[e]
 .rfl
def alL{p n}(H:aX p){F:I->V Z}(hF:nr p n F)(WG:1<=n)(hn:n<=200):Eg Tryz.prog 183 [.c (.L 1000 0 n<|some n),cU p] (eU 1000 22 n 25 u F) (N (.sl u)<|kg p n F):=by
 have r7:=H.hp.1;have BI:=H.le;have He:(p:Z)≠0:=S;refine ZK 1 Tryz.func183 J J J (λid eo=>by simp[fE,AV.ar,C.ar]at eo;omega) (eC.of<|Si S S) J A ?_;refine e J<|t<|iZ J J T<|o J<|e J<|L<|e J ?_;refine q<|aK (α:=I) (λj=>⟨[(0,.c<|.L 1000 0 n<|some n),(1,cU p),(5,D n),(6,.c<|.X 5000000),(7,.c<|.X 6000000),(25,D n),(26,D j)],[(5000000,.vec 3 dS<|zl (gK p n F j).2.1),(6000000,.vec 3 dS<|zl (gK p n F j).2.2)]++eU 1000 22 n 25 u (gK p n F j).1,7,[]⟩) (λj=>j<=n) (λj=>n-j) 0 (aW _) ?_ ?_
 .refine Wk.trans (r6 5000000 3 dS (sl':=[(0,.c<|.L 1000 0 n<|some n),(1,cU p),(5,D n),(6,.c<|.X 5000000),(7,.c<|.V<|.slice none 0 0),(25,D n),(26,D 0)]) (m2:=eU 1000 22 n 25 u F) (nx':=6) (gd':=[]) ⟨.inl<|sR J,.inl<|sR J,.inl<|sR J,.inr ⟨J,J⟩,.inl<|sR J,.inl<|sR J,.inl<|sR J,T⟩ ⟨bR J,iV.gJ λb l=>cw⟩ J<|Ep (conc:=[(5000000,.vec 3 dS [])]) J S S) ?_;refine Wk.trans (r6 6000000 3 dS (sl':=[(0,.c<|.L 1000 0 n<|some n),(1,cU p),(5,D n),(6,.c<|.X 5000000),(7,.c<|.X 6000000),(25,D n),(26,D 0)]) (m2:=(5000000,.vec 3 dS [])::eU 1000 22 n 25 u F) (nx':=7) (gd':=[]) ⟨.inl<|sR J,.inl<|sR J,.inl<|sR J,.inl<|sR J,.inr ⟨J,J⟩,.inl<|sR J,.inl<|sR J,T⟩ ⟨bR J,bR J,iV.gJ λb l=>cw⟩ J<|Ep (conc:=[(6000000,.vec 3 dS []),(5000000,.vec 3 dS [])]) J S S) ?_;exact iP (aS J) ⟨bE J J,bE J J,T⟩ J (λb l=>cw) S
 intro j hj;let ⟨i1,i2,i3,i4⟩:=Sy H hF j hj;refine e J<|L<|z J (λh=>?_)<|λh=>?_
 .have zF:j<n:=by have h:(j:Z)<(n:Z):=az h;omega
  have hS:gK p n F (j+1)=En p n j (gK p n F j):=rfl;generalize hSj:gK p n F j=BN at*;let ⟨B,a,free⟩:=BN;simp only at i1 i2 i3 i4⊢;have SC:=Mv a;have hzf:=Mv free;refine ai<|L<|q<|e J<|e J ?_;refine dc (ak' 8001000 (T:=dS) (x:=(j:Z)) (sl':=[(0,.c<|.L 1000 0 n<|some n),(1,cU p),(5,D n),(6,.c<|.X 5000000),(7,.c<|.X 6000000),(25,D n),(26,D j),(8,.c<|.E dS (j:Z) 0),(9,D<|G a)]) (mem':=[(5000000,.vec 3 dS<|zl a),(6000000,.vec 3 dS<|zl free)]++eU 1000 22 n 25 u B) (nx':=10) (gd':=[]) J ⟨.inl<|sR J,.inl<|sR J,.inl<|sR J,.inl<|sR J,.inl<|sR J,.inl<|sR J,.inl<|sR J,.inr ⟨0,J,J⟩,.inl ⟨_,J,a7.of_eq<|aC (λR:I=>D (R:Z)) SC⟩,T⟩ (iV.app (jv J) ⟨bR J,iV.gJ λb l=>cw⟩) (Z7 S S J)<|Ep J S S) ?_;obtain⟨ns,hL⟩:∃ns,ns=(be<|n-ad ((G a:I):Z)).map λi=>B ((if n=ad ((G a:I):Z)then 0 else 0+ad ((G a:I):Z)*1)+i):=⟨_,J⟩
  have hLl:G ns=n-G a:=by rw[hL,aV];simp
  have HW:∀i,i<n-G a->ns.getD i []=B (G a+i):=λi hi=>by rw[hL,aV,aF,gj,jW hi,M S,dU,kI];rfl
  have qT:(if n=ad ((G a:I):Z)then 0 else 0+ad ((G a:I):Z)*1)+(n-ad ((G a:I):Z))<=n:=by rw[aV];split<;>omega
  rcases Z1 B n j (G a)with⟨i,hi⟩|hz
  .have Mw:gK p n F (j+1)=(Em p B n j (G a) i,a++[j],free):=hS.trans<|Z2 hi;let ⟨a1,a2,a3,a4⟩:=hi;have y:af Tryz.prog 238 [N (.sl u) ns,Mq j] (.c<|.I .i64 ((i-G a:I):Z)):=Z0 ns j _ S (λi hi=>by rw[HW i S,(i1 _ S).1];exact zF)<|.inl ⟨i-G a,S,J,by rw[HW _ S,(S:G a+(i-G a)=i)];exact a3,λb l=>by rw[HW b S];exact a4 _ S S⟩;rw[hL]at y;generalize hk:G a=k at*;have d:k<n:=S;refine t (iZ J J ?_<|Ml J J J<|ZQ (z:= .I .i64 ((i-k:I):Z)) J J J (λb l=>cw) S qT (a8 _) y (λ_ _ _ h=>h)<|o J ?_)
   .simp only[Pr.an,Pr.h,true_and,and_true];omega
   refine L<|e J<|z J (λh1=>?_)<|λh1=>ai ?_
   .exfalso;have h1:(k:Z)+((i-k:I):Z)<(k:Z):=az h1;omega
   refine dc (iP (sl':=[(0,.c<|.L 1000 0 n<|some n),(1,cU p),(5,D n),(6,.c<|.X 5000000),(7,.c<|.X 6000000),(25,D n),(26,D j),(8,.c<|.E dS (j:Z) 0),(9,D k),(10,D i)]) (conc:=[(5000000,.vec 3 dS<|zl a),(6000000,.vec 3 dS<|zl free)]) (nx':=12) (gd':=[]) (o:=1000) (E0:=22) (r:=n) (E:=25) (T:=u) (f:=B) ⟨sR J,sR J,sR J,sR J,sR J,sR J,sR J,sR J,sR J,sE J ?_,T⟩ (jv J) J (λb l=>cw) S) ?_
   .exact aC D (S:(k:Z)+((i-k:I):Z)=(i:Z))
   have qq:(0:Z)<=(k:Z)/\(k:Z)<(n:Z):=⟨S,S⟩;have Er:(0:Z)<=(i:Z)/\(i:Z)<(n:Z):=⟨S,S⟩;refine t<|iZ J J Er<|mz a6 (c:= .X<|1+i) J J (r9 a2) J<|iZ J J qq<|mz a6 (c:= .X<|1+k) J J (r9 d) J<|iZ J J qq<|Ed a6 J J J cw J ?_<|iZ J J ?_<|Ed a6 J J J cw J ?_<|o J ?_ (ho:=pN j8)
   .show 0+ad ((k:Z))*1<_;simp;omega
   .exact Er
   .show 0+ad ((i:Z))*1<_;simp;omega
   refine dc (alC k i (sl':=[(0,.c<|.L 1000 0 n<|some n),(1,cU p),(5,D n),(6,.c<|.X 5000000),(7,.c<|.X 6000000),(25,D n),(26,D j),(8,.c<|.E dS (j:Z) 0),(9,D k)]) (conc:=[(5000000,.vec 3 dS<|zl a),(6000000,.vec 3 dS<|zl free)]) (nx':=13) (gd':=[]) (o:=1000) (E0:=22) (r:=n) (E:=25) (T:=u) (f:=B) (g:=ow B k i) d a2 ?_ ?_ ?_ (λb l=>cw) (λb l=>rfl) S S S) ?_
   .refine⟨sE J ?_,sR J,sR J,sE J ?_,sE J ?_,sR J,sR J,sR J,sR J,T⟩
    .exact aC (λR=>AV.c<|.L R 0 n<|some n) (BL S S).symm
    .exact aC (λR=>AV.c<|.X R) (BL S S).symm
    .exact aC (λR=>AV.c<|.X R) (BL S S).symm
   .refine⟨⟨_,by rw[BL S S];rfl,cK.refl _⟩,⟨_,by rw[BL S S];rfl,cK.refl _⟩,T⟩
   .refine aC (λR=>some<|aH.box 22 0 R) ?_;rw[aV,aV,dU,kI,dU,kI]
   have hG:=i1.sw d a2;have hGk:ow B k i k=B i:=by unfold ow;rw[s J]
   have hkj:=(i1 i a2).2 j;have hinv:af Tryz.prog 124 [cU (Y (ow B k i k) (ad<|(j:Z)) 0),cU p] (.t [(ah,[.I .u64 (eQ (ad<|Y (B i) j 0) p:I)]),(ah,[.I .i64 0])]):=by rw[aV,hGk];have:=LC (Y (B i) j 0) p hkj a3 S S;rwa[aV]at this
   have hv:=G9 (ad<|Y (B i) j 0) (p-2) p S;have alP:Em p B n j k i=iz p (fI (ow B k i) k<|l5 p (eQ (ad<|Y (B i) j 0) p:I) (ow B k i k) n) k j n:=by rw[hGk];rfl
   have hv:(0:Z)<=((eQ (ad<|Y (B i) j 0) p:I):Z)/\((eQ (ad<|Y (B i) j 0) p:I):Z)<p:=by unfold eQ;omega
   rw[alP]at Mw;generalize ((eQ (ad<|Y (B i) j 0) p:I):Z)=v at*;generalize ow B k i=P at*;have W:=λb(l:b<n)=>(hG b l).1
   have hGr:=λb(l:b<n)=>(hG b l).2
   refine t<|iZ J J qq<|mz a6 (c:= .X<|1+k) J J (r9 d) J<|rk 1 J J<|pM a6 (T:=u) (xs:=P k) J cw J J S (by rw[W k d];omega)<|x4 a6 J cw J J J (by show ad ((j:Z))<_;rw[W k d];omega)<|rc J J hinv<|o J ?_ (ho:=pN j8);refine L<|e J<|q<|aK (α:=I) (λc=>⟨[(0,.c<|.L 1000 0 n<|some n),(1,cU p),(5,D n),(6,.c<|.X 5000000),(7,.c<|.X 6000000),(25,D n),(26,D j),(8,.c<|.E dS (j:Z) 0),(9,D k),(11,cU v),(71,D n),(72,D c)],[(5000000,.vec 3 dS<|zl a),(6000000,.vec 3 dS<|zl free)]++eU 1000 22 n 25 u (fI P k<|l5 p v (P k) c),15,[]⟩) (λc=>c<=n) (λc=>n-c) 0 (aW _) ?_ ?_
   .refine iP (aS J) (jv J) J (λb l=>?_) S;rw[als,aaf];exact cw
   intro c hc;have hsr:=Sx (S:0<p) v (hGr k d) c;have O:=tC p v (P k) c;have HX:fI P k (l5 p v (P k) c) k=l5 p v (P k) c:=zE _ _ _;refine e J<|L<|z J (λh2=>?_)<|λh2=>?_
   .have w:c<n:=by have h2:(c:Z)<(n:Z):=az h2;omega
    refine ai<|L<|q<|e J ?_;refine bs<|iZ J J qq<|mz a6 (c:= .X<|1+k) J J (r9 d) J<|iZ J J qq<|mz a6 (c:= .X<|1+k) J J (r9 d) J<|rk 1 J J<|pM a6 (T:=u) (xs:=fI P k (l5 p v (P k) c) k) J cw J J S (by rw[HX,O,W k d];omega)<|x4 a6 J cw J J J (by show ad ((c:Z))<_;rw[HX,O,W k d];omega)<|rk 4 J J ?_ (hp:=ak);refine pM a6 (T:=u) (xs:=fI P k (l5 p v (P k) c) k) J cw J J S (by rw[HX,O,W k d];omega) ?_;refine AI a6 (T:=u) (id:=1+k) (xs:=fI P k (l5 p v (P k) c) k) J cw J J J (Y (P k) c 0*v%(p:Z)) ?_ (by show ad ((c:Z))<_;rw[HX,O,W k d];omega) ?_
    .have hx:Y (fI P k (l5 p v (P k) c) k) (ad<|(c:Z)) 0=Y (P k) c 0:=by rw[aV,HX,Ej p v (P k) c (by rw[W k d];exact w),M S]
     show some [C.I .u64 ((ao .u64<|Y (fI P k (l5 p v (P k) c) k) (ad<|(c:Z)) 0*v).tmod (p:Z))]=_;rw[hx,LB _ _ _ (hGr k d c) hv S];rfl
    refine o J ?_ (ho:=pN j8);refine aT<|rt J (hp:=ak)<|aA (c+1) w (S:n-(c+1)<n-c)<|iP (aS J) ⟨⟨_,(eV S).trans J,cK.refl _⟩,⟨_,(eV S).trans J,cK.refl _⟩,T⟩ ((eV S).trans J) (λb l=>?_) S;by_cases bZ:b=k
    .subst bZ;refine BE.trans<|aC (λR=>some<|aH.vec 25 u R) ?_;rw[aV,zE,zE,alu p v (P b) c<|by rw[W b d];exact w]
    .refine(eV S).trans<|Eq.trans (cw)<|aC (λR=>some<|aH.vec 25 u R) ?_;rw[BM _ _ bZ,BM _ _ bZ]
   .have w:n=c:=by have h2:¬(c:Z)<(n:Z):=aL h2;omega
    subst w;refine aN<|ay ?_;have hU:nr p n (fI P k<|l5 p v (P k) n):=hG.up ⟨by rw[tC,W k d],hsr⟩;generalize fI P k (l5 p v (P k) n)=U at*;have Mx:=λb(l:b<n)=>(hU b l).1
    have SD:=λb(l:b<n)=>(hU b l).2
    refine L<|e J<|q<|aK (α:=I) (λr=>⟨[(0,.c<|.L 1000 0 n<|some n),(1,cU p),(5,D n),(6,.c<|.X 5000000),(7,.c<|.X 6000000),(25,D n),(26,D j),(8,.c<|.E dS (j:Z) 0),(9,D k),(93,D n),(94,D r)],[(5000000,.vec 3 dS<|zl a),(6000000,.vec 3 dS<|zl free)]++eU 1000 22 n 25 u (iz p U k j r),17,[]⟩) (λr=>r<=n) (λr=>n-r) 0 (aW _) ?_ ?_
    .refine iP (aS J) (jv J) J (λb l=>?_) S;rw[alJ];exact cw
    intro r hr;refine e J<|L<|z J (λh3=>?_)<|λh3=>?_
    .have K:r<n:=by have h3:(r:Z)<(n:Z):=az h3;omega
     have SE:(0:Z)<=(r:Z)/\(r:Z)<(n:Z):=⟨S,S⟩;have My:=alH p U k j r;have hAk:=alI p U k j r;have Dr:=SD r K j;refine ai<|L<|q<|e J ?_;refine t<|iZ J J SE<|mz a6 (c:= .X<|1+r) J J (r9 K) J<|rk 1 J J<|pM a6 (T:=u) (xs:=iz p U k j r r) J cw J J S (by rw[My,Mx r K];omega)<|x4 a6 J cw J J J (by show ad ((j:Z))<_;rw[My,Mx r K];omega)<|o J ?_ (ho:=pN j8);rw[show Y (iz p U k j r r) (ad<|(j:Z)) 0=Y (U r) j 0 by rw[aV,My]];generalize AW:Y (U r) j 0=Q at*;have back:∀(st:St),Wk st ⟨[(0,.c<|.L 1000 0 n<|some n),(1,cU p),(5,D n),(6,.c<|.X 5000000),(7,.c<|.X 6000000),(25,D n),(26,D j),(8,.c<|.E dS (j:Z) 0),(9,D k),(93,D n),(94,D ((r+1:I):Z))],[(5000000,.vec 3 dS<|zl a),(6000000,.vec 3 dS<|zl free)]++eU 1000 22 n 25 u (iz p U k j<|r+1),17,[]⟩->Wk st ⟨[(0,.c<|.L 1000 0 n<|some n),(1,cU p),(5,D n),(6,.c<|.X 5000000),(7,.c<|.X 6000000),(25,D n),(26,D j),(8,.c<|.E dS (j:Z) 0),(9,D k),(93,D n),(94,D ((r+1:I):Z))],[(5000000,.vec 3 dS<|zl a),(6000000,.vec 3 dS<|zl free)]++eU 1000 22 n 25 u (iz p U k j<|r+1),17,[]⟩:=λ_ h=>h
     refine t<|rg 107 J J (λh4=>?_)<|λh4=>?_
     .have h4:r≠k:=λbZ=>by subst bZ;simp at h4
      refine o J<|z J (λh5=>?_)<|λh5=>?_
      .have h5:Q≠0:=λbZ=>by subst bZ;simp at h5
       have e1:ao .u64 ((p:Z)-Q)=(p:Z)-Q:=wrap_u64 _ S S;refine e J<|q<|aK (α:=I) (λc=>⟨[(0,.c<|.L 1000 0 n<|some n),(1,cU p),(5,D n),(6,.c<|.X 5000000),(7,.c<|.X 6000000),(25,D n),(26,D j),(8,.c<|.E dS (j:Z) 0),(9,D k),(93,D n),(94,D r),(14,D r),(15,cU Q),(111,D n),(112,D c)],[(5000000,.vec 3 dS<|zl a),(6000000,.vec 3 dS<|zl free)]++eU 1000 22 n 25 u (fI (iz p U k j r) r<|l6 p Q (U r) (U k) c),22,[]⟩) (λc=>c<=n) (λc=>n-c) 0 (aW _) ?_ ?_
       .refine iP (aS J) (jv J) J (λb l=>?_) S;rw[alv,show fI (iz p U k j r) r (U r)=iz p U k j r from by rw[<-My];exact aaf _ _];exact cw
       intro c hc;have HY:fI (iz p U k j r) r (l6 p Q (U r) (U k) c) r=l6 p Q (U r) (U k) c:=zE _ _ _;have SF:fI (iz p U k j r) r (l6 p Q (U r) (U k) c) k=U k:=by rw[BM _ _ (λbZ=>h4 bZ.symm),hAk]
       have Mz:=wo p Q (U r) (U k) c;have Hr:=Mx r K;have ZP:=Mx k d;refine e J<|L<|z J (λh6=>?_)<|λh6=>?_
       .have w:c<n:=by have h6:(c:Z)<(n:Z):=az h6;omega
        refine ai<|L<|q<|e J ?_;refine bs<|iZ J J SE<|mz a6 (c:= .X<|1+r) J J (r9 K) J<|iZ J J SE<|mz a6 (c:= .X<|1+r) J J (r9 K) J<|rk 1 J J<|pM a6 (T:=u) (xs:=fI (iz p U k j r) r (l6 p Q (U r) (U k) c) r) J cw J J S (by rw[HY,Mz];omega)<|x4 a6 J cw J J J (by show ad ((c:Z))<_;rw[HY,Mz];omega) ?_;refine iZ J J qq<|mz a6 (c:= .X<|1+k) J J (r9 d) J<|rk 1 J J<|pM a6 (T:=u) (xs:=fI (iz p U k j r) r (l6 p Q (U r) (U k) c) k) J cw J J S (by rw[SF];omega)<|x4 a6 J cw J J J (by show ad ((c:Z))<_;rw[SF];omega)<|rk 4 J J ?_ (hp:=ak);refine pM a6 (T:=u) (xs:=fI (iz p U k j r) r (l6 p Q (U r) (U k) c) r) J cw J J S (by rw[HY,Mz];omega) ?_;refine AI a6 (T:=u) (id:=1+r) (xs:=fI (iz p U k j r) r (l6 p Q (U r) (U k) c) r) J cw J J J ((Y (U r) c 0+((p:Z)-Q)*Y (U k) c 0)%(p:Z)) ?_ (by show ad ((c:Z))<_;rw[HY,Mz];omega) ?_
        .have hx:Y (fI (iz p U k j r) r (l6 p Q (U r) (U k) c) r) (ad<|(c:Z)) 0=Y (U r) c 0:=by rw[aV,HY,Ek p Q (U r) (U k) c S,M S]
         have hy:Y (fI (iz p U k j r) r (l6 p Q (U r) (U k) c) k) (ad<|(c:Z)) 0=Y (U k) c 0:=by rw[aV,SF]
         show some [C.I .u64 ((ao .u64<|Y (fI (iz p U k j r) r (l6 p Q (U r) (U k) c) r) (ad<|(c:Z)) 0+ao .u64 (ao .u64 ((p:Z)-Q)*Y (fI (iz p U k j r) r (l6 p Q (U r) (U k) c) k) (ad<|(c:Z)) 0)).tmod (p:Z))]=_;rw[hx,hy,e1,YO _ _ _ _ (SD r K c) S (SD k d c) S];rfl
        refine o J ?_ (ho:=pN j8);refine aT<|rt J (hp:=ak)<|aA (c+1) w (S:n-(c+1)<n-c)<|iP (aS J) ⟨⟨_,(eV S).trans J,cK.refl _⟩,⟨_,(eV S).trans J,cK.refl _⟩,T⟩ ((eV S).trans J) (λb l=>?_) S;by_cases bZ:b=r
        .subst bZ;refine BE.trans<|aC (λR=>some<|aH.vec 25 u R) ?_;rw[aV,zE,zE,alw p Q (U b) (U k) c S]
        .refine(eV S).trans<|Eq.trans (cw)<|aC (λR=>some<|aH.vec 25 u R) ?_;rw[BM _ _ bZ,BM _ _ bZ]
       .have w:c=n:=by have h6:¬(c:Z)<(n:Z):=aL h6;omega
        subst w;refine aN<|aT<|rt J (hp:=ak)<|aA (r+1) K (S:c-(r+1)<c-r) ?_;have es:=alK p U (t:=r) (k:=k) (j:=j) ⟨h4,by rw[AW];exact h5⟩;rw[AW,Hr]at es;refine back _<|iP (aS J) (jv J) J (λb l=>?_) S;rw[<-es];exact cw
      .have h5:Q=0:=by simpa using h5
       refine bN<|aT<|rt J (hp:=ak)<|aA (r+1) K (S:n-(r+1)<n-r) ?_;refine back _<|iP (aS J) (jv J) J (λb l=>?_) S;rw[aae p U (λh=>h.2<|by rw[AW];exact h5)];exact cw
     .have h4:r=k:=by have:((r:Z)=(k:Z)):=xB;omega
      refine o J<|z J (λh5=>by cases h5)<|λh5=>?_;refine bN<|aT<|rt J (hp:=ak)<|aA (r+1) K (S:n-(r+1)<n-r) ?_;refine back _<|iP (aS J) (jv J) J (λb l=>?_) S;rw[aae p U (λh=>h.1 h4)];exact cw
    .have K:n=r:=by have h3:¬(r:Z)<(n:Z):=aL h3;omega
     subst K;refine aN<|ay ?_;refine bs<|rl dS [(j:Z)] J J (ra J J J J J J J J J ?_ ?_<|o J<|aT<|rt J<|aA (j+1) zF MA ?_)
     .show(_+1+(_+1)/4+192)*8<=_;omega
     .show(_+1)*1<=_;omega
     show Wk _ ⟨[(0,.c<|.L 1000 0 n<|some n),(1,cU p),(5,D n),(6,.c<|.X 5000000),(7,.c<|.X 6000000),(25,D n),(26,D ((j+1:I):Z))],[(5000000,.vec 3 dS<|zl (gK p n F<|j+1).2.1),(6000000,.vec 3 dS<|zl (gK p n F<|j+1).2.2)]++eU 1000 22 n 25 u (gK p n F<|j+1).1,7,[]⟩;rw[Mw];exact SB 5000000 18003000 ⟨sR J,sR J,sR J,sR J,sR J,sR J,sR J,T⟩ ⟨⟨_,J,cK.of_eq<|aC (aH.vec 3 dS)<|aac a j⟩,bR J,T⟩ J (λb l=>SH) S S S J S S S
  .have y:af Tryz.prog 238 [N (.sl u) ns,Mq j] (.c<|.I .i64<| -1):=Z0 ns j (-1) S (λi hi=>by rw[HW i S,(i1 _ S).1];exact zF)<|.inr ⟨J,λi hi=>by rw[HW i S];exact hz _ S S⟩;rw[hL]at y;refine t (iZ J J ?_<|Ml J J J<|ZQ (z:= .I .i64<| -1) J J J (λb l=>cw) S qT (a8 _) y (λ_ _ _ h=>h)<|o J ?_)
   .simp only[Pr.an,Pr.h,true_and,and_true];omega
   have Mw:gK p n F (j+1)=(B,a,free++[j]):=hS.trans<|Z3 hz;refine L<|e J<|z J (λh1=>?_)<|λh1=>?_
   .refine t (rl dS [(j:Z)] J J (ra J J J J J J J J J ?_ ?_<|o J<|jS<|lJ<|jT<|ay<|rt J<|aA (j+1) zF MA ?_))
    .show(_+1+(_+1)/4+192)*8<=_;omega
    .show(_+1)*1<=_;omega
    show Wk _ ⟨[(0,.c<|.L 1000 0 n<|some n),(1,cU p),(5,D n),(6,.c<|.X 5000000),(7,.c<|.X 6000000),(25,D n),(26,D ((j+1:I):Z))],[(5000000,.vec 3 dS<|zl (gK p n F<|j+1).2.1),(6000000,.vec 3 dS<|zl (gK p n F<|j+1).2.2)]++eU 1000 22 n 25 u (gK p n F<|j+1).1,7,[]⟩;rw[Mw];exact SB 6000000 12003000 ⟨sR J,sR J,sR J,sR J,sR J,sR J,sR J,T⟩ ⟨bR J,⟨_,J,cK.of_eq<|aC (aH.vec 3 dS)<|aac free j⟩,T⟩ J (λb l=>SH) S S S J S S S
   .exfalso;have h1:¬((G a:Z)+ -1<(G a:Z)):=aL h1;omega
 .have zF:j=n:=by have h:¬(j:Z)<(n:Z):=aL h;omega
  subst zF;have HZ:kg p j F=(gK p j F j).2.2.map λf=>mD p j (gK p j F j).1 (gK p j F j).2.1 f (gK p j F j).2.1.length:=rfl
  generalize hSj:gK p j F j=BN at*;let ⟨B,a,free⟩:=BN;simp only at i1 i2 i3 i4 HZ⊢;have SC:=Mv a;have hzf:=Mv free;have ZP:G (kg p j F)=G free:=by rw[HZ,cL]
  have hkg:∀b,b<G free->(kg p j F)[b]? =some (mD p j B a (Y free b 0)<|G a):=λb l=>by rw[HZ,gj,aF,bD l];rfl
  generalize kg p j F=KL at*;refine aN<|ay<|e J ?_;refine HR 5000000 J J J S<|HR 6000000 J J J S ?_;refine L<|e J<|q<|aK (α:=I) (λb=>⟨[(0,.c<|.L 1000 0 j<|some j),(1,cU p),(5,D j),(6,N dS<|zl a),(17,.c<|.X 10000000),(149,N dS<|zl free),(150,D<|G free),(151,D b)],[(10000000,.vec 22 (.sl u)<|KL.take b)]++eU 1000 22 j 25 u B,11,[]⟩) (λb=>b<=G free) (λb=>G free-b) 0 (aW _) ?_ ?_
  .exact r6 10000000 22 (.sl u) (m2:=eU 1000 22 j 25 u B) ⟨.inl<|sR J,.inl<|sR J,.inl<|sR J,.inl<|sR J,.inr ⟨J,J⟩,.inl<|sR J,.inl ⟨_,J,a7.of_eq<|aC (λR:I=>D (R:Z)) hzf⟩,.inl<|sR J,T⟩ ⟨bR J,iV.gJ λb l=>cw⟩ J<|Ep (conc:=[(10000000,.vec 22 (.sl u) [])]) J S S
  intro b l;have DH:(KL.take b).length=b:=v7;refine e J<|L<|z J (λh1=>?_)<|λh1=>?_
  .have H2:b<G free:=by have h1:(b:Z)<(G free:Z):=az h1;omega
   have hfb:=i2.fb b H2;have H3:Y (zl free) (ad<|(b:Z)) 0=((Y free b 0:I):Z):=by rw[aV,aad]
   have au7:Y (zl free) (ad<|(b:Z)) dS.cJ=((Y free b 0:I):Z):=H3;have hkq:=hkg b H2;generalize Y free b 0=f at*;refine ai<|L<|q<|e J (hp:=ak)<|t ?_;refine rm u j J J J J J J (kH .u64) J ?_ ?_<|o J ?_
   .show _*8<=_;omega
   .show _*1<=_;omega
   have Hr:G (bh j (0:Z))=j:=fo;have au8:G (bh j y6.cJ)=j:=fo;refine e J (hp:=iM)<|L<|e J<|q<|aK (α:=I) (λm=>⟨[(0,.c<|.L 1000 0 j<|some j),(1,cU p),(5,D j),(6,N dS<|zl a),(17,.c<|.X 10000000),(149,N dS<|zl free),(150,D<|G free),(151,D b),(19,D f),(20,.c<|.X 13001000),(160,N dS<|zl a),(161,D<|G a),(162,D m)],[(10000000,.vec 22 (.sl u)<|KL.take b),(13001000,.vec 25 u<|mD p j B a f m)]++eU 1000 22 j 25 u B,16,[]⟩) (λm=>m<=G a) (λm=>G a-m) 0 (aW _) ?_ ?_
   .refine iP ⟨sR J,sR J,sR J,sR J,sR J,sR J,sR J,sR J,sE J ?_,sR J,sR J,sE J ?_,sR J,T⟩ ⟨bR J,bE J ?_,T⟩ J (λb l=>cw) S
    .exact aC D H3
    .exact aC (λR:I=>D (R:Z)) SC
    .refine aC (aH.vec 25 u) ?_;rw[H3,aV];rfl
   intro m ht;have Dg:=HV p j B a f m;refine e J<|L<|z J (λh2=>?_)<|λh2=>?_
   .have MB:m<G a:=by have h2:(m:Z)<(G a:Z):=az h2;omega
    have hpb:=i2.pb m MB;have Hx:Y (zl a) (ad<|(m:Z)) 0=((Y a m 0:I):Z):=by rw[aV,aad]
    have au':Y (zl a) (ad<|(m:Z)) dS.cJ=((Y a m 0:I):Z):=Hx;have SI:m<j:=S;have hBt:=(i1 m SI).2 f;have hBl:=(i1 m SI).1;have RF:(0:Z)<=(m:Z)/\(m:Z)<(j:Z):=⟨S,S⟩;have alU:mD p j B a f (m+1)=(mD p j B a f m).set (Y a m 0) (((p:Z)-Y (B m) f 0)%(p:Z)):=rfl;refine ai<|L<|q<|e J (hp:=ak) ?_;refine bs<|iZ J J RF<|mz a6 (c:= .X<|1+m) J J (r9 SI) J<|rk 1 J J<|pM a6 (T:=u) (xs:=B m) J cw J J S S<|x4 a6 J cw J J J (by show ad ((f:Z))<_;omega)<|o J ?_ (hp:=?_)
    .refine aT<|rt J (hp:=ak)<|aA (m+1) MB (S:G a-(m+1)<G a-m)<|iP (aS J) ⟨bR J,bE J ?_,T⟩ J (λb l=>cw) S;refine aC (aH.vec 25 u) ?_;have e1:ao .u64 ((p:Z)-Y (B m) f 0)=(p:Z)-Y (B m) f 0:=wrap_u64 _ S S;rw[alU,Hx,aV,aV,e1,oh S]
    .simp only[Pr.an,Pr.h,num,eO,true_and,and_true];omega
   .have MB:m=G a:=by have h2:¬(m:Z)<(G a:Z):=aL h2;omega
    subst MB;refine aN<|ay<|HR 13001000 J J J S ?_;refine bs<|rl (.sl u) [mD p j B a f (G a)] J J (ra J J J J J J J J J ?_ ?_<|o J<|aT<|rt J (hp:=ak)<|aA (b+1) H2 (S:G free-(b+1)<G free-b) ?_)
    .show(_+1+(_+1)/4+192)*24<=_;omega
    .show(_+1)*1<=_;omega
    refine SB 10000000 17003000 ⟨sR J,sR J,sR J,sR J,sR J,sR J,sR J,sR J,T⟩ ⟨bE J ?_,T⟩ J (λb l=>SH) S S S J S S S;refine aC (aH.vec 22<|.sl u) ?_;rw[mM,hkq];rfl
  .have H2:b=G free:=by have h1:¬(b:Z)<(G free:Z):=aL h1;omega
   subst H2;rw[iI S];exact aN<|ay<|HR 10000000 J J J S<|e J<|bc<|Sg a6 J<|a7.refl _
namespace Fx
variable{p:I}
def sF(f:I->Fx p):I->Fx p
 |0=>0
 |k+1=>sF f k+f k
def aaj{f g:I->Fx p}:∀{k:I},(∀i,i<k->f i=g i)->sF f k=sF g k
 |0,_=>rfl
 |k+1,a=>by rw[sF,sF,aaj<|λi b=>a i S,a k S]
def SJ{Q:Fx p}{f g:I->Fx p}:∀{k:I},(∀i,i<k->Q∣f i-g i)->Q∣sF f k-sF g k
 |0,_=>nT Q _
 |k+1,a=>L5 (SJ λi b=>a i S)<|a k S
def aak(H:aX p)(f:I->Fx p):∀k,pk (sF f k) p=sF (λi=>pk (f i) p) k
 |0=>L6 qM
 |k+1=>by rw[sF,DW H,aak H f k];rfl
def aal(f:I->Z):∀k,sF (λi=>(K (f i):Fx p)) k=K (sm f k)
 |0=>l3.symm
 |k+1=>by rw[sF,aal f k,sm,pE]
def aam(a:V Z):∀k,(fx (y k a):Fx p)=sF (λc=>K (Y a c 0)*pk X c) k
 |0=>by rw[Bh,jX];rfl
 |k+1=>by rw[sF,<-aam a k,R7];exact mk_congr (D0 a k) _<|(aU.ps p _).add<|(aU.K p _).mul<|xW k
def alV{a}{n}(b:G a<=n):(fx a:Fx p)=sF (λc=>K (Y a c 0)*pk X c) n:=by rw[<-aam,iI b]
def Es(x:I->Z)(a:I->V Z)(k:I):PS:=λr=>sm (λc=>x c*Y (a c) r 0) k
def aan(x:I->Z)(a:I->V Z) k:Es x a k+PS.K (x k)*h (a k)=Es x a (k+1):=PS.ext λi=>by rw[PS.eR,PS.eS];rfl
def aao(x:I->Z)(a:I->V Z) k:aU p (Es x a k):=by
 induction k with
 |zero=>exact⟨0,λi _=>dj _⟩
 |succ k b=>exact aU.cg (b.add<|(aU.K p<|x k).mul<|aU.ps p<|a k)<|Cg.of_eq<|aan x a k
def MC(x:I->Z)(a:I->V Z):∀k,sF (λc=>(K (x c)*fx (a c):Fx p)) k=mk (Es x a k) (aao x a k)
 |0=>mk_congr (PS.ext λi=>rfl) (aU.zero p) _
 |k+1=>by rw[sF,MC x a k];exact mk_congr (aan x a k) ((aao x a k).add<|(aU.K p<|x k).mul<|aU.ps p<|a k) _
def aap{a}{n}{x:I->Z}{b:I->V Z}{k}(l:G a<=n)(d:∀c,c<k->G (b c)<=n)(f:∀r,r<n->Y a r 0%(p:Z)=sm (λc=>x c*Y (b c) r 0) k%p):(fx a:Fx p)=sF (λc=>(K (x c)*fx (b c):Fx p)) k:=by
 rw[MC];refine mk_eq.2<|Cg.of λr=>?_;by_cases g:r<n
 .exact f r g
 .rw[cc,cF a S,Es,nk<|λc i=>by rw[cF (b c) (by have:=d c i;omega),dI]]
def alW{a}{x:I->Z}{b:I->V Z}{k}(d:(fx a:Fx p)=sF (λc=>(K (x c)*fx (b c):Fx p)) k) r:Y a r 0%(p:Z)=sm (λc=>x c*Y (b c) r 0) k%p:=by rw[MC]at d;exact(mk_eq.1 d).at r
end Fx
open Fx
structure zG(p n:I)(f:V Z)(a:I->V Z)(b:I->I->Z):Prop where
 len:∀c,c<n->(a c).length<=n
 aaq:∀c,c<n->(fx f:Fx p)∣fx (a c)-pk X (p*c)
 ent:∀r c,r<n->c<n->b r c%(p:Z)=((a c).getD r 0-if r=c then 1 else 0)%p
def zG.dot{p n}{f}{d:I->V Z}{g:I->I->Z}(k:zG p n f d g)(b:I->Z){r}(m:r<n):iy n (g r) b%(p:Z)=(sm (λc=>b c*Y (d c) r 0) n-b r)%p:=by
 have v:iy n (g r) b%(p:Z)=sm (λc=>b c*Y (d c) r 0+(-1)*(if c=r then b c else 0)) n%p:=HU λc x=>by
  rw[ZW (k.ent r c m x) J];congr 1;by_cases e:r=c
  .subst e;rw[s J,s J,An,ew<|Y (d r) r 0];omega
  .rw[M e,M<|λk=>e k.symm,xv,ew];omega
 rw[v,Bi,th,Ei (a:=r) m<|λi _ l=>M l,s J];congr 1;omega
def zG.iff{p n}(H:aX p){f}{b:I->V Z}{v:I->I->Z}(d:zG p n f b v)(E:aY p f)(F:G f=n+1){a}(x:G a<=n):qR p n v (λc=>Y a c 0)↔(fx f:Fx p)∣pk (fx a) p-fx a:=by
 have l:(fx f:Fx p)∣sF (λc=>(K (Y a c 0)*fx (b c):Fx p)) n-pk (fx a) p:=by
  have e:pk (fx a:Fx p) p=sF (λc=>K (Y a c 0)*pk X (p*c)) n:=by rw[alV x,aak H];exact aaj λc _=>by rw[qK,zr H,<-rV,fR]
  rw[e];exact SJ λc m=>pJ (nT _ _)<|d.aaq c m
 constructor
 .intro C;have e:(fx a:Fx p)=sF (λc=>(K (Y a c 0)*fx (b c):Fx p)) n:=aap x d.len λr g=>by have k:=C r g;rw[d.dot _ g]at k;have:=zp.2 k;exact this.symm
  rw[<-e]at l;exact kM l
 .intro P r g;have k:=lR l P;have Q:=rY H k (by
   have B:=Bv H.pos (sF (λc=>(K (Y a c 0)*fx (b c):Fx p)) n)<|fx a;have R:=RT H.pos a (p:=(p:Z));have U:sz (sF (λc=>(K (Y a c 0)*fx (b c):Fx p)) n)<=n:=by rw[MC];refine xX H.pos _<|λi W=>?_;rw[Es,nk (λc m=>by rw[cF (b c) (by have:=d.len c m;omega),dI]),dj]
   rw[bO E];omega)
  have B:=alW (Bu Q).symm r;rw[d.dot _ g];exact zp.1 B.symm
def zG.fq{p n}(H:aX p){f}{Q:I->V Z}{F:I->V Z}(R:zG p n f Q (mG F))(U:nr p n F)(k:Mon p f)(m:G f=n+1)(W:jz (fx f:Fx p)){g}(hg:Mon p g)(r:2<=G g)(E:(fx g:Fx p)∣fx f)(P:∀a,a<G (kg p n F)->∃c,(fx g:Fx p)∣fx ((kg p n F).getD a [])-K c):bw (fx g:Fx p):=by
 refine akR H (k.gI H) W E (by rw[bO hg.c];exact r) λw C=>?_
 let ⟨m1,t,v⟩:=pO H k.c k.ne w;have B:(fx f:Fx p)∣pk (fx<|eW H (f) w) p-fx (eW H f w):=lR (uS v p)<|lR C<|kM v;have i:=(R.iff H k.c m S).2 B;let ⟨k1,X,j⟩:=Z6 H U;let ⟨x,hx⟩:=j _ i;have e:(fx (eW H f w):Fx p)=sF (λa=>(K (x a)*fx ((kg p n F).getD a []):Fx p)) (G<|kg p n F):=aap (n:=n) S (λa b=>by
  have o:(kg p n F).getD a []∈kg p n F:=by rw[aF,bD b];exact j6 b
  exact ME (X _ o).1) hx
 have d:∃l:I->Z,∀a,a<G (kg p n F)->(fx g:Fx p)∣fx ((kg p n F).getD a [])-K (l a):=by refine⟨λa=>if b:a<G (kg p n F)then wm (P a b)else 0,λa b=>?_⟩;simp only[dif_pos b];exact qL<|P a b
 let ⟨l,d⟩:=d;refine⟨sm (λa=>x a*l a)<|G<|kg p n F,?_⟩;have s:(fx g:Fx p)∣fx (eW H f w)-K (sm (λa=>x a*l a)<|G<|kg p n F):=by rw[e,<-aal];exact SJ λa b=>by rw[eS];exact pJ (nT _ _)<|d a b
 exact lR (kM<|dvd_trans E v) s
noncomputable def nt{p:I}(H:aX p)(f:V Z):I->V Z
 |0=>[1]
 |c+1=>mA p f (nt H f c)<|eW H f<|pk X p
def SK{p:I}(H:aX p){f:V Z}(d:Mon p f)(g:3<=G f):∀c,aY p (nt H f c)/\G (nt H f c)<G f/\(fx f:Fx p)∣fx (nt H f c)-pk X (p*c)
 |0=>by refine⟨⟨pI A qM,.inr H4⟩,by show 1<_;omega,?_⟩;rw[Et,nt,uT];exact nT _ _
 |c+1=>by let ⟨i1,i2,i3⟩:=SK H d g c;let ⟨m1,m,i⟩:=pO H d.c d.ne<|pk (X:Fx p) p;let ⟨q1,k,l⟩:=Eh H (a:=nt H f c) (b:=eW H f<|pk X p) d.c d.ne;refine⟨q1,k,lR l ?_⟩;rw[D3,rU];exact pJ i3 i
def kO(p n:I)(a:I->V Z)(i:I):I->V Z:=λr=>(be n).map λc=>if c<i then(if r=c then(Y (a c) r 0+(p:Z)-1)%(p:Z)else Y (a c) r 0)else 0
def mE(p n:I)(a:I->V Z)(i b:I):I->V Z:=λr=>if r<b then(kO p n a i r).set i (Y (a i) r 0)else kO p n a i r
def x8 p n(a:I->V Z) i r:G (kO p n a i r)=n:=by simp[kO]
def zH p n(a:I->V Z) i r{c}(b:c<n):Y (kO p n a i r) c 0=if c<i then(if r=c then(Y (a c) r 0+(p:Z)-1)%(p:Z)else Y (a c) r 0)else 0:=Ms _ b
def SL p n(a:I->V Z) i b r:G (mE p n a i b r)=n:=by
 unfold mE;split
 .rw[fP,x8]
 .exact x8 _ _ _ _ _
def alX p n(a:I->V Z) i:mE p n a i 0=kO p n a i:=funext λr=>by unfold mE;rw[M S]
def alY p n(b:I->V Z) i a:mE p n b i a a=kO p n b i a:=by unfold mE;rw[M S]
def alZ p n(b:I->V Z) i a:fI (mE p n b i a) a ((kO p n b i a).set i<|Y (b i) a 0)=mE p n b i (a+1):=funext λr=>by
 unfold fI mE;by_cases e:r=a
 .subst e;rw[s J,s S]
 .rw[M e];by_cases h:r<a
  .rw[s h,s S]
  .rw[M h,M S]
def aas l i c(x:Z)(a:i<G l):Y (l.set i x) c 0=if i=c then x else Y l c 0:=by
 rw[aF,Dw];by_cases e:i=c
 .subst e;rw[s J,s J,s a];rfl
 .rw[M e,M e,aF]
def SM{p n}{a:I->V Z}{i r c}(b:i<n)(d:c<n):Y (mE p n a i (G<|a i) r) c 0=if c=i then Y (a i) r 0 else Y (kO p n a i r) c 0:=by
 unfold mE;by_cases h:r<G (a i)
 .rw[s h,aas _ _ _ _<|by rw[x8];exact b];by_cases e:i=c
  .rw[s e,s e.symm]
  .rw[M e,M<|λh=>e h.symm]
 .rw[M h];by_cases e:c=i
  .subst e;rw[s J,zH p n a c r d,M S,cF _ S]
  .rw[M e]
def al0{p n}{a:I->V Z}{i}(k:i<n):∀r,r<n->fI (mE p n a i<|G<|a i) i ((mE p n a i (G<|a i) i).set i<|(Y (a i) i 0+(p:Z)-1)%(p:Z)) r=kO p n a (i+1) r:=by
 intro r f;have d:=SL p n a i<|G<|a i;unfold fI;by_cases e:r=i
 .subst e;rw[s J];refine BJ (by rw[fP,d,x8]) λc b=>?_
  rw[fP,d]at b;rw[aas _ _ _ _ (by rw[d];exact f),SM f b,zH p n a (r+1) r b,zH p n a r r b];by_cases e:r=c
  .subst e;rw[s J,s S,s J]
  .rw[M e,M<|λh=>e h.symm,M e];by_cases h2:c<r
   .rw[s h2,s S]
   .rw[M h2,M S]
 .rw[M e];refine BJ (by rw[d,x8]) λc b=>?_
  rw[d]at b;rw[SM k b,zH p n a (i+1) r b,zH p n a i r b];by_cases g:c=i
  .subst g;rw[s J,s S,M e]
  .rw[M g];by_cases h2:c<i
   .simp only[s h2,s (S:c<i+1)]
   .rw[M h2,M S]
def aat{p n}(H:aX p){a:I->V Z}(d:∀c,rp p (a c)) i:nr p n (kO p n a i):=λr _=>⟨x8 _ _ _ _ _,λc=>by
 have b:=H.pos;by_cases hc:c<n
 .rw[zH p n a i r hc];split
  .split
   .exact⟨fS _ S,gA _ b⟩
   .exact d c r
  .exact⟨gk _,b⟩
 .rw[cF _ (by rw[x8];omega)];exact⟨gk _,b⟩⟩
def al1{p n:I}{f:V Z}{a:I->V Z}(d:∀c,G (a c)<=n)(g:∀c,(fx f:Fx p)∣fx (a c)-pk X (p*c)):zG p n f a (mG<|kO p n a n) where
 len:=λc _=>d c
 aaq:=λc _=>g c
 ent:=λr c _ b=>by
  show Y (kO p n a n r) c 0%(p:Z)=_;rw[zH p n a n r b,s b];by_cases e:r=c
  .rw[s e,s e,jJ,(S:Y (a c) r 0+(p:Z)-1=Y (a c) r 0-1+p),RB]
  .rw[M e,M e,xv]
structure H5(p:I)(f v:V Z):Prop where
 H6:f.length<=200
 aG:Mon p f
 two:2<=f.length
 jN:jz (fx f:Fx p)
 c:aY p v
 ne:v≠[]
 lv:v.length<=200
 kn:(fx f:Fx p)∣pk (fx v) p-fx v
def H5.ex{p}(H:aX p){f v}(a:H5 p f v):∃l,Sp p f (fx v) l/\G l+1<=G f/\lK j 184 [aP f p,aP v p] 101 PT (lP p l):=
 Sr H (G f+1) f v (di _) a.H6 a.aG a.two a.jN a.c a.ne a.lv a.kn
open Classical in
noncomputable def sa{p:I}(H:aX p)(f v:V Z):V (V Z):=if h:H5 p f v then wm (h.ex H)else[]
def MF{p}(H:aX p){f v}(a:H5 p f v):Sp p f (fx v) (sa H f v)/\G (sa H f v)+1<=G f/\lK j 184 [aP f p,aP v p] 101 PT (lP p<|sa H f v):=by unfold sa;rw[dif_pos a];exact qL<|a.ex H
noncomputable def mH{p:I}(H:aX p)(f:V Z)(a:V (V Z)):I->V (V Z)
 |0=>[f]
 |b+1=>(mH H f a b).flatMap λg=>sa H g<|au<|a.getD b []
def aau{p:I}{a:V Z->V (V Z)}:∀{l:V (V Z)},(∀g∈l,eD p (a g)=fx g)->eD p (l.flatMap a)=eD p l
 |[],_=>rfl
 |g::l,b=>by rw[mm,BG,b g ax,aau λg c=>b g<|by simp[c]];rfl
def H7{p:I}(H:aX p):∀{l:V (V Z)},(∀g∈l,Mon p g/\2<=G g)->eD p l≠0/\G l+1<=sz (eD p l)
 |[],_=>⟨nn H,by rw[eD,np H];exact a8 _⟩
 |g::l,a=>by
  let ⟨b,h2⟩:=H7 H (l:=l) λg d=>a g (by simp[d])
  let ⟨m1,i⟩:=a g ax;have f:=dE H (m1.gI H) b;rw[bO m1.c]at f;refine⟨nQ H (m1.gI H) b,?_⟩;rw[eD,fu];omega
def aav{φ:V Z->V (V Z)}{b:I}:∀{l:V (V Z)},(∀g∈l,G (φ g)<=b)->G (l.flatMap φ)<=G l*b
 |[],_=>by simp
 |g::l,a=>by
  have d:=aav (l:=l) λg c=>a g (by simp[c])
  have f:=a g ax;rw[mm,fO,fu,Nat.succ_mul];omega
structure MG(p:I)(f:V Z)(a:V (V Z)):Prop where
 H6:f.length<=200
 aG:Mon p f
 two:2<=f.length
 jN:jz (fx f:Fx p)
 v:∀q,q<a.length->rp p (a.getD q [])/\(a.getD q []).length<=200/\(∃i,(a.getD q []).getD i 0≠0)/\(fx f:Fx p)∣pk (fx<|a.getD q []) p-fx (a.getD q [])
structure H8(p:I)(f:V Z)(a:V (V Z))(q:I)(l:V (V Z)):Prop where
 parts:∀g∈l,Mon p g/\2<=g.length/\(fx g:Fx p)∣fx f/\∀k,k<q->∃c,(fx g:Fx p)∣fx (a.getD k [])-K c
 prod:eD p l=fx f
def H8.pre{p}(H:aX p){f}{a}{b}{l}(d:MG p f a)(r:H8 p f a b l)(x:b<a.length):∀g∈l,H5 p g (au<|a.getD b []):=by
 intro g B;let ⟨m,g2,k,_⟩:=r.parts g B;let ⟨v1,v2,⟨i,C⟩,v4⟩:=d.v b x;have E:G g<=G f:=by have:=fV H k<|d.aG.gI H;rwa[bO m.c,bO d.aG.c]at this
 have:=d.H6;refine⟨S,m,g2,d.jN.of_dvd k,gH H.pos v1,λe=>C ?_,?_,?_⟩
 .have n:h (au<|a.getD b []) i=h (a.getD b []) i:=by rw[nR]
  rw[e,cc,cc]at n;exact n.symm
 .have:=kK<|a.getD b [];omega
 .rw[pK];exact dvd_trans k v4
def MH{p:I}(H:aX p){f:V Z}{i:V (V Z)}(d:MG p f i):∀b,b<=i.length->H8 p f i b (mH H f i b)
 |0,_=>⟨λg l=>by have n:=iu.1 (show g∈[f]from l);subst n;exact⟨d.aG,d.two,dvd_refl _,λk d=>al2⟩,by rw[mH,eD,eD,mul_one]⟩
 |b+1,P=>by
  have r:=MH H d b S;have a:=r.pre H d S;refine⟨λg l=>?_,?_⟩
  .let ⟨v,x,h2⟩:=jF.1 (show g∈(mH H f i b).flatMap _ from l);let ⟨s1,s2,K⟩:=MF H<|a v x;let ⟨_,_,B,C⟩:=r.parts v x;let ⟨p1,E,F⟩:=s1.parts g h2;have m:(fx g:Fx p)∣fx v:=by rw[<-s1.prod];exact x6 p h2
   refine⟨p1,E,dvd_trans m B,λk d=>?_⟩;by_cases n:k=b
   .subst n;rwa[pK]at F
   .let ⟨c,hc⟩:=C k S;exact⟨c,dvd_trans m hc⟩
  .rw[mH,aau λg l=>(MF H<|a g l).1.prod];exact r.prod
def H8.len{p}(H:aX p){f}{d}{i}{l}(k:Mon p f)(a:H8 p f d i l):G l+1<=G f:=by
 let ⟨_,h2⟩:=H7 H (l:=l) λg b=>⟨(a.parts g b).1,(a.parts g b).2.1⟩
 rw[a.prod,bO k.c]at h2;exact h2
structure pQ(p:I)(f:V Z)(l:V (V Z)):Prop where
 parts:∀g∈l,Mon p g/\2<=g.length/\bw (fx g:Fx p)
 prod:eD p l=fx f
def al3{p}(H:aX p){f}(a:Mon p f)(l:G f=2):bw (fx f:Fx p):=by
 refine⟨by rw[bO a.c];omega,λA B e=>?_⟩;have d:=a.gI H;have g:A≠0:=λb=>d (by rw[e,b,zero_mul])
 have i:B≠0:=λb=>d (by rw[e,b,mul_zero])
 have k:=dE H g i;rw[<-e,bO a.c]at k;have:=dX H.pos g;have:=dX H.pos i;omega
noncomputable def pR{p:I}(H:aX p)(f:V Z):V (V Z):=kg p (G f-1)<|kO p (G f-1) (nt H f)<|G f-1
def aaw{p}(H:aX p){f}(l:Mon p f)(B:3<=G f)(a:G f<=200)(r:jz (fx f:Fx p)):MG p f (pR H f)/\G (pR H f)<=G f/\pQ p f (mH H f (pR H f)<|G<|pR H f):=by
 have n:=SK H l B;have b:G f=(G f-1)+1:=S;have d:zG p (G f-1) f (nt H f) (mG<|kO p (G f-1) (nt H f)<|G f-1):=al1 (λc=>by have:=(n c).2.1;omega)<|λc=>(n c).2.2;have v:nr p (G f-1) (kO p (G f-1) (nt H f)<|G f-1):=aat H (λc=>(n c).1.1) _;let ⟨k1,C,R⟩:=Z6 H v;have i:MG p f (pR H f):=by
  refine⟨a,l,S,r,λq m=>?_⟩;have E:(pR H f).getD q []∈kg p (G f-1) (kO p (G f-1) (nt H f)<|G f-1):=by show(kg p (G f-1)<|kO p (G f-1) (nt H f)<|G f-1).getD q []∈_;have m:q<G (kg p (G f-1)<|kO p (G f-1) (nt H f)<|G f-1):=m;rw[aF,bD m];exact j6 m
  let ⟨v1,v2,F,v4⟩:=C _ E;exact⟨v2,S,F,(d.iff H l.c b S).1 v4⟩
 have k:=MH H i (G<|pR H f)<|a8 _;refine⟨i,by show G (kg _ _ _)<=_;omega,⟨λg K=>?_,k.prod⟩⟩;let ⟨x,g2,P,Q⟩:=k.parts g K;exact⟨x,g2,d.fq H v l b r x g2 P Q⟩
noncomputable def nv{p:I}(H:aX p)(f:V Z):V (V Z):=if G f<=2 then[f]else mH H f (pR H f) (G<|pR H f)
def SN{p}(H:aX p){f}(b:Mon p f)(c:2<=G f)(a:G f<=200)(d:jz (fx f:Fx p)):pQ p f (nv H f):=by
 unfold nv;split
 .refine⟨λg i=>?_,by rw[eD,eD,mul_one]⟩;have e:=iu.1 i;subst e;exact⟨b,c,al3 H b S⟩
 .exact(aaw H b S a d).2.2
def MI p l:G (lP p l)=G l:=cL _
def aax{p}{l}{i}(a:i<G l):Y (lP p l) i ([],0)=(l[i],(p:Z)):=by rw[aF,gj,bD a];rfl
def al4{d}{k}{r}{E}{g}{f:I->V g.den}{a}(l:w d a=none)(m:Mf a=true)(n:r<=900):∀c b,w c (eU d k r E g f)=some b->w c a=none:=by
 intro c b h;unfold eU at h;simp only[w]at h;split at h
 .rename_i e;rw[<-e];exact l
 .let ⟨i,p,h2,_⟩:=Me h;rw[h2];exact ak1 m S
def SO{b B a}{l}{v:aH}(c:a≠b)(d:w a l=some v):w (mw b B a) l=some v:=by rwa[pP c]
def al5 p n(b:I->V Z) r:kO p n b 0 r=bh n 0:=BJ (by rw[x8,fo]) λc a=>by rw[x8]at a;rw[zH p n b 0 r a,M S,aF,j9,s a];rfl
abbrev aay(n:I)(a:V C)(f x:V Z)(p:I)(i:I):V (I×aH):=(1000,.box 22 0 a)::(0,.box 101 0 [.S u f,.I .u64 p])::(3009000,.box 101 0 [.S u x,.I .u64 p])::gJ i 25 u (λ_=>bh n 0)
def aaz{n}{d}{f x}{p i K}(a:∀b∈cy d,b<K)(g:i<=900)(k:4000000<=K):eC K (aay n d f x p i):=
 .cons S a (.cons S (λb c=>by cases c)<|.cons S (λb c=>by cases c)<|.gJ S)
def aaA{p}(H:aX p) f(hf:Mon p f)(h2:2<=G f)(MJ:G f<=200)(hs:jz (fx f:Fx p)):af Tryz.prog 128 [aP f p] (N PT<|lP p<|nv H f):=by
 have r7:=H.hp.1;have BI:=H.le;have He:(p:Z)≠0:=S;refine aD Tryz.func128 ?_;refine e J<|aO J J (tf f p S) J ?_;refine L<|e J<|z J (λh=>?_)<|λh=>ai ?_
 .have h:G f<=2:=by have h:(G f:Z)-1<2:=az h;omega
  rw[show nv H f=[f]from s h];exact t<|rl PT [(f,(p:Z))] J J (o J<|bc<|bt<|atR J)
 have h3:3<=G f:=by have h:¬(G f:Z)-1<2:=aL h;omega
 let ⟨w,hKl,hSp⟩:=aaw H hf h3 MJ hs;have hi:=SK H hf h3;obtain⟨n,hn⟩:∃n,G f=n+1:=⟨G f-1,S⟩;have en:(G f:Z)-1=(n:Z):=S;rw[show nv H f=mH H f (pR H f) (G<|pR H f)from M S];have qq:pR H f=kg p n (kO p n (nt H f) n):=by unfold pR;rw[hn,eJ]
 rw[en];let ⟨m1,m2,m3⟩:=pO H hf.c hf.ne<|pk (X:Fx p) p;have hx:aY p [0,1]:=⟨λi=>by
  match i with
  |0=>exact⟨gk _,(S:(0:Z)<(p:Z))⟩
  |1=>exact⟨A1,(S:(1:Z)<(p:Z))⟩
  |i+2=>exact⟨gk _,(S:(0:Z)<(p:Z))⟩,.inr H4⟩
 have SP:(fx [0,1]:Fx p)=X:=by rw[D5,uT,l3,zero_add,mul_one]
 have Sv:af Tryz.prog 182 [aP [0,1] p,cU p,Mn f p] (aP (eW H f<|pk X p) p):=by have:=ZS H f [0,1] p MJ hf.c hx (by show 2<_;omega) S S;rwa[SP]at this
 generalize hxx:eW H f (pk (X:Fx p) p)=x at*;refine t<|rl u [0,1] J J (Ml J J J<|rc J J Sv<|o J ?_);refine t<|rk 1 J J<|Zy a6 n (hx:=rfl) J J J A (by show n*24<=_;omega) S<|o J ?_;refine L<|t<|iZ J J T<|o J<|q<|aK (α:=I) (λi=>⟨[(1,.c<|.P 0 0),(3,D n),(4,.c<|.P 3009000 0),(5,.c<|.L 1000 0 n<|some n),(34,D n),(35,D i)],aay n (ox n i) f x p i,6,[]⟩) (λi=>i<=n) (λi=>n-i) 0 (aW _) ?_ ?_
 .refine wi (mw 1000 4001000) ⟨sR J,sR J,sR J,sR J,sR J,sR J,T⟩ ⟨bE J ?_,bE J J,bE J J,ke.gJ λd R=>absurd R S⟩ J (Eo<|by(repeat(refine(eV S).trans ?_));exact Sz S)<|aaz (Z' (A:1+0<=1000000*6)) S (A:4000000<=1000000*6);show aH.box 22 0 (xl [.V (.slice none 0 0)] n)=aH.box 22 0 ((ox n 0).map<|nU<|mw 1000 4001000);rw[Z9 S,alF,Sk]
 .intro i hin;have hci:=alD n i hin;refine e J (L<|z J (λh=>?_)<|λh=>?_)
  .have m:i<n:=by have h:(i:Z)<(n:Z):=az h;omega
   refine ai<|L<|q<|e J<|bs ?_;refine rm u n J J J J J J (kH .u64) J ?_ ?_ ?_
   .show _*8<=_;omega
   .show _*1<=_;omega
   refine iZ J J ⟨H9,(S:(i:Z)<(n:Z))⟩<|Ed a6 J J J J J ?_<|o J ?_ (ho:=pN j8)
   .show 0+ad ((i:Z))*1<_;rw[hci];omega
   refine aT<|rt J (hp:=ak)<|aA (i+1) m MK<|wi (mw (1+i) 8003000) ⟨⟨_,J,a7.of_eq<|aC (λK=>AV.c<|.P K 0) (pP S).symm⟩,sR J,⟨_,J,a7.of_eq<|aC (λK=>AV.c<|.P K 0) (pP S).symm⟩,⟨_,J,a7.of_eq<|aC (λK=>AV.c<|.L K 0 n<|some n) (pP S).symm⟩,sR J,sR J,T⟩ ⟨⟨_,SO S J,cK.of_eq ?_⟩,⟨_,SO S J,cK.of_eq J⟩,⟨_,SO S J,cK.of_eq J⟩,ke.gJ λd R=>?_⟩ (pP S) (Eo<|by(repeat(refine(eV S).trans ?_));exact Sz S)<|aaz (Z' (S:1+(i+1)<=1000000*6)) S (A:4000000<=1000000*6)
   .show aH.box 22 0 ((ox n i).set (0+ad ((i:Z))*1)<|.X 8003000)=aH.box 22 0 ((ox n<|i+1).map<|nU<|mw (1+i) 8003000);rw[<-alG n i m,Z8,Z9 S,aV,dU,kI];show _=aH.box 22 0 ((ox n i).set i<|.X<|mw (1+i) 8003000<|1+i);rw[Mu]
   .by_cases O:d=i
    .subst O;rw[Mu];rfl
    .rw[pP S];(repeat(refine(eV S).trans ?_));exact HL (f:=λ_=>bh n 0) S
  .have m:n=i:=by have h:¬(i:Z)<(n:Z):=aL h;omega
   subst m;refine aN<|ay ?_;have Sw:af Tryz.prog 125 [aP f p,cU 1] (aP [1] p):=by have:=zv f 1 p H.pos S S S;rwa[Hs A]at this
   refine aO J J Sw J ?_;have al8:∀c,nt H f (c+1)=mA p f (nt H f c) x:=λc=>by rw[<-hxx];rfl
   refine L<|e J<|q<|aK (α:=I) (λi=>⟨[(1,.c<|.P 0 0),(3,D n),(4,.c<|.P 3009000 0),(5,.c<|.L 1000 0 n<|some n),(7,.c<|.P 7002000 0),(46,D n),(47,D i)],[(0,.box 101 0 [.S u f,.I .u64 p]),(3009000,.box 101 0 [.S u x,.I .u64 p]),(7002000,.box 101 0 [.S u (nt H f i),.I .u64 p])]++eU 1000 22 n 25 u (kO p n (nt H f) i),9,[]⟩) (λi=>i<=n) (λi=>n-i) 0 (aW _) ?_ ?_
   .refine iP (aS J) ⟨bE J J,bE J J,bE J J,T⟩ (aC (λK=>some<|aH.box 22 0 K)<|alE n) (λd R=>?_) S;rw[al5];(repeat(refine(eV S).trans ?_));exact HL (f:=λ_=>bh n 0) S
   intro i hin;let ⟨q1,q2,q3⟩:=hi i;generalize hI:nt H f=k at*;have Er:(0:Z)<=(i:Z):=S;have ave:G (k i)<=n:=S;refine e J<|L<|z J (λh4=>?_)<|λh4=>?_
   .have m:i<n:=by have h4:(i:Z)<(n:Z):=az h4;omega
    have Er:(0:Z)<=(i:Z)/\(i:Z)<(n:Z):=⟨S,S⟩;refine ai<|L<|q<|e J<|L<|e J<|q<|aK (α:=I) (λj=>⟨[(1,.c<|.P 0 0),(3,D n),(4,.c<|.P 3009000 0),(5,.c<|.L 1000 0 n<|some n),(7,.c<|.P 7002000 0),(46,D n),(47,D i),(8,D i),(52,D<|G<|k i),(53,D j)],[(0,.box 101 0 [.S u f,.I .u64 p]),(3009000,.box 101 0 [.S u x,.I .u64 p]),(7002000,.box 101 0 [.S u (k i),.I .u64 p])]++eU 1000 22 n 25 u (mE p n k i j),12,[]⟩) (λj=>j<=G (k i)) (λj=>G (k i)-j) 0 (aW _) ?_ ?_
    .refine iP (aS J) (jv J) J (λd R=>?_) S;rw[alX];exact cw
    intro j hj;refine e J<|L<|z J (λU=>?_)<|λU=>?_
    .have F:j<G (k i):=by have U:(j:Z)<(G (k i):Z):=az U;omega
     have zF:j<n:=S;have hbj:(0:Z)<=(j:Z)/\(j:Z)<(n:Z):=⟨S,S⟩;have hPl:=SL p n k i j j;refine ai<|L<|q<|e J ?_;refine bs<|iZ J J hbj<|mz a6 (c:= .X<|1+j) J J (r9 zF) J<|rk 6 J J (pM a6 (T:=u) (xs:=mE p n k i j j) J cw J J S S ?_) (hp:=ak);refine AI a6 (T:=u) (id:=1+j) (xs:=mE p n k i j j) J cw J J J (Y (k i) j 0) ?_ ML ?_
     .show some [C.I .u64 (Y (k i) (ad<|(j:Z)) 0)]=_;rw[aV];rfl
     refine o J ?_ (ho:=pN j8);refine aT<|rt J (hp:=ak)<|aA (j+1) F (S:G (k i)-(j+1)<G (k i)-j)<|iP (aS J) ⟨⟨_,(eV S).trans J,cK.refl _⟩,⟨_,(eV S).trans J,cK.refl _⟩,⟨_,(eV S).trans J,cK.refl _⟩,T⟩ ((eV S).trans J) (λd R=>?_) S;rw[<-alZ];by_cases O:d=j
     .subst O;refine BE.trans<|aC (λK=>some<|aH.vec 25 u K) ?_;rw[aV,zE,alY]
     .refine(eV S).trans<|Eq.trans (cw)<|aC (λK=>some<|aH.vec 25 u K) ?_;rw[BM _ _ O]
    .have F:j=G (k i):=by have U:¬(j:Z)<(G (k i):Z):=aL U;omega
     subst F;refine aN<|ay ?_;have hPl:=SL p n k i (G<|k i) i;have hPx:Y (mE p n k i (G<|k i) i) (ad<|(i:Z)) 0=Y (k i) i 0:=by rw[aV,SM m m,s J]
     have hgi:=q1.1 i;have ama:af Tryz.prog 159 [aP f p,aP (k i) p,aP x p] (aP (mA p f (k i) x) p):=Hv p H.hp H.le f (k i) x S S S hf.c q1 m1 hf.ne;refine t<|iZ J J Er<|mz a6 (c:= .X<|1+i) J J (r9 m) J<|iZ J J Er<|mz a6 (c:= .X<|1+i) J J (r9 m) J<|rk 1 J J<|pM a6 (T:=u) (xs:=mE p n k i (G<|k i) i) J cw J J S S<|x4 a6 J cw J J J ML<|rk 7 J J ?_ (hp:=ak);refine pM a6 (T:=u) (xs:=mE p n k i (G<|k i) i) J cw J J S S ?_;refine AI a6 (T:=u) (id:=1+i) (xs:=mE p n k i (G<|k i) i) J cw J J J ((Y (k i) i 0+(p:Z)-1)%(p:Z)) ?_ ML ?_
     .show some [C.I .u64 ((ao .u64<|ao .u64 (Y (mE p n k i (G<|k i) i) (ad<|(i:Z)) 0+(p:Z))-1).tmod (p:Z))]=_;rw[hPx,wrap_u64 (Y (k i) i 0+(p:Z)) S S,wrap_u64 _ S S,oh S];rfl
     refine o J (dc (iP (sl':=[(1,.c<|.P 0 0),(3,D n),(4,.c<|.P 3009000 0),(5,.c<|.L 1000 0 n<|some n),(7,.c<|.P 7002000 0),(46,D n),(47,D i)]) (conc:=[(0,.box 101 0 [.S u f,.I .u64 p]),(3009000,.box 101 0 [.S u x,.I .u64 p]),(7002000,.box 101 0 [.S u (k i),.I .u64 p])]) (nx':=14) (gd':=[]) (o:=1000) (E0:=22) (r:=n) (E:=25) (T:=u) (f:=kO p n k<|i+1) (aS J) ⟨⟨_,(eV S).trans J,cK.refl _⟩,⟨_,(eV S).trans J,cK.refl _⟩,⟨_,(eV S).trans J,cK.refl _⟩,T⟩ ((eV S).trans J) (λd R=>?_) S) ?_) (ho:=pN j8)
     .rw[<-al0 m d R];by_cases O:d=i
      .subst O;refine BE.trans<|aC (λK=>some<|aH.vec 25 u K) ?_;rw[aV,zE]
      .refine(eV S).trans<|Eq.trans (cw)<|aC (λK=>some<|aH.vec 25 u K) ?_;rw[BM _ _ O]
     refine bs<|rc J J ama<|o J ?_;refine aT<|rt J (hp:=ak)<|aA (i+1) m MK<|iP (aS J) ⟨bR J,bR J,bE J ?_,T⟩ J (λd R=>cw) S;rw[al8];rfl
   .have m:i=n:=by have h4:¬(i:Z)<(n:Z):=aL h4;omega
    subst m;refine aN<|ay ?_;have HZ:Eg Tryz.prog 183 [.c (.L 1000 0 i<|some i),cU p] (eU 1000 22 i 25 u<|kO p i k i) (N (.sl u)<|pR H f):=by rw[qq];exact alL H (aat H (λc=>(hi c).1.1) i) S S
    generalize pR H f=B at*;refine t<|rl PT [(f,(p:Z))] J J (o J ?_);refine L<|t<|rcc (conc:=[(0,.box 101 0 [.S u f,.I .u64 p]),(3009000,.box 101 0 [.S u x,.I .u64 p]),(7002000,.box 101 0 [.S u (k i),.I .u64 p])]) (fm:=eU 1000 22 i 25 u<|kO p i k i) J J HZ (al4 J J S)<|o J ?_;have DU:∀d,d<=B.length->(mH H f B d).length+1<=G f:=λd R=>(MH H w d R).len H hf
    refine q<|aK (α:=I) (λd=>⟨[(1,.c<|.P 0 0),(10,N PT<|lP p<|mH H f B d),(98,N (.sl u) B),(99,D B.length),(100,D d)],[(0,.box 101 0 [.S u f,.I .u64 p])],12,[]⟩) (λd=>d<=B.length) (λd=>B.length-d) 0 (aW _) aM ?_;intro d R;refine e J<|L<|z J (λU=>?_)<|λU=>?_
    .have W:d<B.length:=by have U:(d:Z)<(B.length:Z):=az U;omega
     have hI:=MH H w d R;have Q:=hI.pre H w W;have hln:=DU d R;let ⟨v1,v2,_⟩:=w.v d W;have amc:mH H f B (d+1)=(mH H f B d).flatMap λg=>sa H g (au<|B.getD d []):=rfl
     generalize mH H f B d=l at*;have hvq:B.getD (ad<|(d:Z)) []=B.getD d []:=by rw[aV]
     generalize B.getD d []=v at*;have ame:af Tryz.prog 61 [N u v,cU p] (aP (au v) p):=by have:=RK v p S H.pos S<|λi=>(v1 i).1;rwa[Bo v1]at this
     have amf:=MI p l;refine ai<|L<|q<|e J<|e J<|L<|e J<|q<|aK (α:=I) (λj=>⟨[(1,.c<|.P 0 0),(98,N (.sl u) B),(99,D B.length),(100,D d),(12,N u v),(13,.c<|.X 16000000),(104,N PT<|lP p l),(105,D<|G l),(106,D j)],[(16000000,.vec 101 PT<|lP p<|(y j l).flatMap λg=>sa H g<|au v),(0,.box 101 0 [.S u f,.I .u64 p])],17,[]⟩) (λj=>j<=G l) (λj=>G l-j) 0 (aW _) ?_ ?_
     .exact r6 16000000 101 PT ⟨.inl<|sR J,.inl<|sR J,.inl<|sR J,.inl<|sR J,.inl ⟨_,J,a7.of_eq<|aC (N u) hvq⟩,.inr ⟨J,J⟩,.inl<|sR J,.inl ⟨_,J,a7.of_eq<|aC (λK:I=>D (K:Z)) amf⟩,.inl<|sR J,T⟩ ⟨bR J,T⟩ J<|eC.of J
     intro j hj;refine e J<|L<|z J (λh6=>?_)<|λh6=>?_
     .have F:j<G l:=by have h6:(j:Z)<(G l:Z):=az h6;omega
      have hm:l[j]∈l:=j6 F;let ⟨s1,s2,s3⟩:=MF H<|Q _ hm;have mX:=(Q _ hm).H6;have hg:Y (lP p l) (ad<|(j:Z)) ([],0)=(l[j],(p:Z)):=by rw[aV,aax F]
      have hfl:G (lP p<|(y j l).flatMap λg=>sa H g<|au v)<=200*200:=by
       rw[MI];have h1:=aav (φ:=λg=>sa H g<|au v) (b:=200) (l:=y j l) λg hg=>by have hg:=Ai hg;have:=(MF H<|Q g hg).2.1;have:=(Q g hg).H6;show G (sa H g<|au v)<=200;omega
       have h2:(y j l).length<=200:=v7;omega
      have qT:=MI p<|sa H l[j] (au v);have amg:af Tryz.prog 184 [.a (av PT<|Y (lP p l) (ad<|(j:Z)) ([],0)),aP (au v) p] (N PT<|lP p<|sa H l[j] (au v)):=by rw[hg];exact s3.fs
      refine ai<|L<|q<|e J<|bs<|rc J J ame<|rc J J amg<|ra J J J J J J J J J ?_ ?_<|o J ?_
      .show(_+_+(_+_)/4+192)*32<=_;omega
      .show(_+_)*2<=_;omega
      refine aT<|rt J (hp:=ak)<|aA (j+1) F SQ<|Wk.trans (wk (st':=⟨[(1,.c<|.P 0 0),(98,N (.sl u) B),(99,D B.length),(100,D d),(12,N u v),(13,.c<|.X 19007000),(104,N PT<|lP p l),(105,D<|G l),(106,D ((j+1:I):Z))],[(19007000,.vec 101 PT<|lP p<|(y (j+1) l).flatMap λg=>sa H g<|au v),(0,.box 101 0 [.S u f,.I .u64 p])],21,[]⟩) (aS J) ⟨bE J ?_,bE J J,T⟩)<|Wk.trans (fp 16000000 19007000 J J J) aM;refine aC (aH.vec 101 PT) ?_;rw[mM,bD F,uC,lP,lP,lP,fe];simp
     .have F:j=G l:=by have h6:¬(j:Z)<(G l:Z):=aL h6;omega
      subst F;rw[eE,<-amc];exact aN<|ay<|cD 16000000 J J J<|rt J<|aT<|rt J (hp:=ak)<|aA (d+1) W (S:B.length-(d+1)<B.length-d) aM
    .have W:d=B.length:=by have U:¬(d:Z)<(B.length:Z):=aL U;omega
     subst W;exact aN<|ay<|e J<|bU J
def dG(p:I)(f:V Z):V Z:=(be<|G f-1).map λi=>((((i+1)%p:I):Z)*Y f (i+1) 0)%(p:Z)
def zI p f:G (dG p f)=G f-1:=by simp[dG]
def MM p f{i}(a:i<G f-1):Y (dG p f) i 0=((((i+1)%p:I):Z)*Y f (i+1) 0)%(p:Z):=by unfold dG;rw[aF,gj,jW a];rfl
def MN(p:I) f:(fx (dG p f):Fx p)=bp (fx f):=mk_eq.2 (Cg.of λi=>by
 show Y (dG p f) i 0%(p:Z)=((i:Z)+1)*Y f (i+1) 0%(p:Z);by_cases h:i<G f-1
 .rw[MM p f h,jJ,DJ,kJ,jJ,<-kJ];rfl
 .rw[cF _ (by rw[zI];omega),cF f S,dI])
def zJ{p:I}(a:0<p) f:rp p (dG p f):=λi=>by
 by_cases h:i<G f-1
 .rw[MM p f h];exact⟨fS _ S,gA _ S⟩
 .rw[cF _ (by rw[zI];omega)];exact⟨gk _,S⟩
def aaD{p}(H:aX p) f(n:G f<=200)(b:rp p f):
  af j 126 [aP f p] (aP (au<|dG p f) p):=by
 refine aD Tryz.func126 ?_
 have r:=H.hp.1
 have d:=H.le
 have g:=zI p f
 refine e J<|e J<|L<|e J ?_
 refine q<|aK (α:=I) (λa=>⟨[(1,.c<|.P 0 0),(2,.c<|.P 1000 0),(3,.c<|.X 3000000),(4,D a)],[(3000000,.vec 25 u<|y (a-1)<|dG p f),(0,.box 101 0 [.S u f,.I .u64 p]),(1000,.box 101 0 [.V (.slice none 0 0),.I .u64 0])],4,[]⟩) (λa=>1<=a/\a-1<=G f-1) (λa=>G f-a) 1 ⟨a8 _,aW _⟩ ?_ ?_
 .exact r6 3000000 25 u ⟨.inl<|sR J,.inl<|sR J,.inr ⟨J,J⟩,.inl<|sR J,T⟩ ⟨bE J J,bE J J,T⟩ J<|eC.of J
 rintro a ⟨k,v⟩
 have x:G (y (a-1)<|dG p f)=a-1:=bP
 refine L<|e J<|z J (λh=>?_)<|λh=>?_
 .have h:a<G f:=by have h:(a:Z)<(G f:Z):=az h;omega
  have l:=b a;refine ai<|L<|q<|bs ?_;refine rl u [_] J J (hp:=ak) (ra J J J J J J J J J ?_ ?_<|o J ?_)
  .show(_+1+(_+1)/4+192)*8<=_;omega
  .show(_+1)*1<=_;omega
  refine aT<|rt J (hp:=ak)<|aA (a+1) ⟨S,(S:a+1-1<=G f-1)⟩ (S:G f-(a+1)<G f-a)<|Wk.trans (wk (st':=⟨[(1,.c<|.P 0 0),(2,.c<|.P 1000 0),(3,.c<|.X 5016000),(4,D ((a+1:I):Z))],[(5016000,.vec 25 u<|y (a+1-1)<|dG p f),(0,.box 101 0 [.S u f,.I .u64 p]),(1000,.box 101 0 [.V (.slice none 0 0),.I .u64 0])],7,[]⟩) (aS J) ⟨bE J ?_,bE J J,bE J J,T⟩)<|Wk.trans (fp 3000000 5016000 J J J) aM;refine aC (aH.vec 25 u) ?_;obtain⟨i,rfl⟩:∃i,a=i+1:=⟨a-1,S⟩;rw[eJ,eJ,jK _ i S,MM p f S,aV];have m:((i+1:I):Z).tmod (p:Z)=(((i+1)%p:I):Z):=gU (i+1) p;have B:=fg (i+1) (S:0<p);rw[wrap_u64 ((i+1:I):Z) S S,m,LB _ _ _ ⟨S,S⟩ l S]
 .have h:a-1=G f-1:=by have h:¬(a:Z)<(G f:Z):=aL h;omega
  rw[h,iI (S:G (dG p f)<=G f-1)];exact aN<|ay<|cD 3000000 J J J<|aO J J (DR (dG p f) p S) J<|bU J
abbrev MT:ET:= .pr (.sl u) dS
def ib(p:I):V (V Z×Z)->Fx p
 |[]=>1
 |x::l=>pk (fx x.1) (ad x.2)*ib p l
def aaE(p:I)(x:V Z×Z):∀l,ib p (l++[x])=ib p l*pk (fx x.1) (ad x.2)
 |[]=>by show pk (fx x.1) (ad x.2)*1=1*pk (fx x.1) (ad x.2);rw[mul_one,one_mul]
 |a::l=>by rw[kU,ib,ib,aaE p x l,mul_assoc]
def pull(p:I)(g:V Z):I->V Z->I->V Z×I
 |0,f,n=>(f,n)
 |k+1,f,n=>if(aJ f g p).2=[]then pull p g k (aJ f g p).1 (n+1)else(f,n)
def SR{p:I}(H:aX p){g:V Z}(a:Mon p g)(l:2<=G g):∀(k:I)(f:V Z)(n:I),G f<k->Mon p f->Mon p (pull p g k f n).1/\(fx f:Fx p)*pk (fx g) n=fx (pull p g k f n).1*pk (fx g) (pull p g k f n).2/\¬(fx g:Fx p)∣fx (pull p g k f n).1/\n<=(pull p g k f n).2/\((fx g:Fx p)∣fx f->n+1<=(pull p g k f n).2/\(pull p g k f n).1.length<G f)/\(pull p g k f n).1.length<=G f
 |0,_,_,d,_=>by omega
 |k+1,f,n,d,b=>by
  rw[pull];split
  .rename_i m;have i:=(HE H b.c a.c a.ne).1 m;have v:=rZ H b.c a.c a.ne i;have r:G g<=G f:=by have:=fV H i<|b.gI H;rwa[bO a.c,bO b.c]at this
   have x:=Ec H b a r;let ⟨_,_,_,_,_,B⟩:=iO H.hp H.le b.c.1 a.c a.ne;have C:(aJ f g p).1.length<G f:=S;let ⟨i1,i2,i3,i4,i5,i6⟩:=SR H a l k (aJ f g p).1 (n+1) S x;refine⟨i1,?_,i3,S,λ_=>⟨S,S⟩,S⟩;rw[<-i2,v,pk];ac_rfl
  .rename_i m;have i:¬(fx g:Fx p)∣fx f:=λd=>m ((HE H b.c a.c a.ne).2 d)
   exact⟨b,J,i,a8 _,λd=>absurd d i,a8 _⟩
structure mY(p:I)(a:Fx p)(f:V Z)(m:I)(l:V (V Z×Z)):Prop where
 aG:Mon p f
 prod:a=pk (fx f) m*ib p l
 fq:∀x∈l,Mon p x.1/\2<=x.1.length/\bw (fx x.1:Fx p)/\1<=x.2
 nd:∀x∈l,¬(fx x.1:Fx p)∣fx f
 ds:l.Pairwise λx b=>x.1≠b.1
 m1:1<=m
def SS{p:I}(H:aX p){Q:Fx p}(a:2<=sz Q):∀m,m+1<=sz (pk Q m)
 |0=>by rw[pk,np H];exact a8 _
 |m+1=>by
  have b:Q≠0:=λe=>by rw[e,kd H.pos]at a;omega
  have c:=dE H (tB H b m) b;have d:=SS H a m;rw[pk];omega
def aaF{p:I}(H:aX p):∀{l:V (V Z×Z)},(∀x∈l,Mon p x.1/\2<=G x.1/\1<=x.2)->ib p l≠0/\G l+1<=sz (ib p l)/\∀x∈l,x.2+1<=sz (ib p l)
 |[],_=>⟨nn H,by rw[ib,np H];exact a8 _,λx hx=>by cases hx⟩
 |a::l,d=>by
  let ⟨b,h2,g⟩:=aaF H (l:=l) λx hx=>d x iB
  let ⟨m1,i,k⟩:=d a ax;have f:(fx a.1:Fx p)≠0:=m1.gI H;have m:=SS H (show 2<=sz (fx a.1:Fx p)by rw[bO m1.c];exact i)<|ad a.2;have n:=dE H (tB H f<|ad a.2) b;have r:=dX H.pos b;refine⟨nQ H (tB H f _) b,?_,λx hx=>?_⟩
  .rw[ib,fu];omega
  .rw[ib];rcases df.1 hx with rfl|hx
   .omega
   .have:=g x hx;omega
def mY.bounds{p}(H:aX p){d}{f}{m}{l}(a:mY p d f m l):G l+1<=sz d/\(∀x∈l,x.2+1<=sz d)/\(2<=G f->m+1<=sz d):=by
 let ⟨g,h2,i⟩:=aaF H (l:=l) λx b=>⟨(a.fq x b).1,(a.fq x b).2.1,(a.fq x b).2.2.2⟩
 have k:=dE H (tB H (a.aG.gI H) m) g;have r:=dX H.pos<|tB H (a.aG.gI H) m;rw[<-a.prod]at k;refine⟨S,λx b=>by have:=i x b;omega,λn=>?_⟩;have v:=SS H (show 2<=sz (fx f:Fx p)by rw[bO a.aG.c];exact n) m;omega
def mY.start{p:I}{f:V Z}(b:Mon p f):mY p (fx f) f 1 [] where
 aG:=b
 prod:=by rw[rT,ib,mul_one]
 fq:=λx a=>by cases a
 nd:=λx a=>by cases a
 ds:=wu
 m1:=a8 _
def fi(p n:I):I:=(n+p-1)/p
def Ia{p}(H:aX p){f}(g:Mon p f)(R:2<=G f)(v:bp (fx f:Fx p)=0):Mon p (ia p f<|fi p<|G f)/\(fx f:Fx p)=pk (fx<|ia p f<|fi p<|G f) p/\2<=G (ia p f<|fi p<|G f)/\G (ia p f<|fi p<|G f)<G f:=by
 have k:=H.hp.1;have a:G (ia p f<|fi p<|G f)=fi p (G f):=by simp[ia]
 have l:G f<=fi p (G f)*p:=by unfold fi;have:=sZ (G f+p-1) p;have:=fg (G f+p-1) (S:0<p);rw[fR];omega
 have m:=Fx.pth H v l;have x:(G f-1)%p=0:=dQ λU=>by
  have C:=mk_eq.1 (v:mk (qP<|h f) (x0<|aU.ps p f)=mk 0 (aU.zero p));have B:=C.at<|G f-2;rw[PS.l0,dj]at B;have E:((G f-2:I):Z)+1=((G f-1:I):Z):=S;have F:qP (h f) (G f-2)=((G f-1:I):Z)*1:=by show(((G f-2:I):Z)+1)*Y f (G f-2+1) 0=_;rw[E,(S:G f-2+1=G f-1),g.one]
  rw[F,lA]at B;omega
 obtain⟨t,K⟩:∃t,G f-1=t*p:=⟨(G f-1)/p,by have:=sZ (G f-1) p;rw[fR];omega⟩;have n:fi p (G f)=t+1:=by unfold fi;rw[(S:G f+p-1=t*p+p),(F1:t*p+p=(t+1)*p)];exact Q3 _ S
 have P:1<=t:=by
  rcases qF t with e|e
  .subst e;omega
  .exact e
 have Q:t*2<=t*p:=jw t k;have b:∀i,Y (ia p f<|fi p<|G f) i 0=if i<fi p (G f)then Y f (i*p) 0 else 0:=λi=>by
  by_cases r:i<fi p (G f)
  .rw[s r];exact Ms _ r
  .rw[M r,cF _ S]
 have d:Y (ia p f<|fi p<|G f) (G (ia p f<|fi p<|G f)-1) 0=1:=by rw[a,b,s S,n,eJ,<-K,g.one]
 refine⟨⟨⟨λi=>?_,.inr (by rw[d];decide)⟩,λe=>by rw[e]at a;simp at a;omega,d⟩,m,S,S⟩;rw[b];split
 .exact g.c.1 _
 .exact⟨gk _,H.pos⟩
def mY.root{p}(H:aX p){c}{f}{m}{l}(a:mY p c f m l)(g:2<=G f)(i:bp (fx f:Fx p)=0):mY p c (ia p f<|fi p<|G f) (m*p) l:=by
 let ⟨k,d,v,B⟩:=Ia H a.aG g i;refine⟨k,?_,a.fq,λx n b=>a.nd x n ?_,a.ds,?_⟩
 .rw[a.prod,fR,rV,<-d]
 .rw[d];obtain⟨q,r⟩:∃q,p=q+1:=⟨p-1,qM⟩;have:(fx (ia p f<|fi p<|G f):Fx p)∣pk (fx<|ia p f<|fi p<|G f) p:=by
   have e:pk (fx (ia p f<|fi p<|G f):Fx p) p=pk (fx<|ia p f<|fi p<|G f) (q+1):=by rw[<-r]
   rw[e];exact dvd_mul_left _ _
  exact dvd_trans b this
 .have:=H.hp.1;have:=a.m1;exact xF S S
structure wv(p:I)(f:V Z)(a:V (V Z)):Prop where
 ok:∀g∈a,Mon p g/\2<=g.length/\bw (fx g:Fx p)/\(fx g:Fx p)∣fx f
 ds:a.Pairwise λx b=>x≠b
def aaG{p}(H:aX p){a b}(d:Mon p a)(f:Mon p b)(l:bw (fx b:Fx p))(m:2<=G a)(n:(fx a:Fx p)∣fx b):a=b:=by
 let ⟨w,hw⟩:=n;have g:sz (fx a:Fx p)≠1:=by rw[bO d.c];omega
 rcases l.2 _ _ hw with e|e
 .obtain⟨c,i,rfl⟩:=D8 H e;have r:=dE H (ts H i)<|d.gI H;rw[<-hw,bO f.c,bO d.c,tA H i]at r;have v:G b=G a:=S;have k:(h b) (G a-1)%(p:Z)=(PS.K c*h a) (G a-1)%(p:Z):=(mk_eq.1<|show(mk (h b) (aU.ps p b):Fx p)=mk (PS.K c*h a) ((aU.K p c).mul<|aU.ps p a)from hw).at _;rw[PS.eS,cc,cc,d.one,<-v,f.one,lA]at k;have x:(K c:Fx p)=1:=by rw[<-l4];exact rW k.symm
  rw[x,one_mul]at hw;exact(pL f.c d.c hw).symm
 .exact absurd e g
def MO{p:I}(H:aX p){Q a:Fx p}(b:bw Q):∀n,Q∣pk a n->Q∣a
 |0,c=>absurd c<|b.uU H
 |n+1,c=>by
  rcases b.nq H (show Q∣pk a n*a from c)with d|d
  .exact MO H b n d
  .exact d
def mY.pull{p}(H:aX p){v}{f}{m}{l}(b:mY p v f m l){g}{B}(c:wv p f (g::B)):
  mY p v (pull p g (G f+1) f 0).1 m (l++[(g,(((pull p g (G f+1) f 0).2:I):Z)*(m:Z))])/\wv p (pull p g (G f+1) f 0).1 B/\(pull p g (G f+1) f 0).1.length<G f:=by
 let ⟨d,g2,C,E⟩:=c.ok g ax
 let ⟨q1,q2,F,W,K,X⟩:=SR H d g2 (G f+1) f 0 (di _) b.aG
 let ⟨j,P⟩:=K E
 generalize Go.El.pull p g (G f+1) f 0=x at*
 let ⟨o,n⟩:=x
 simp only at q1 q2 F W K X j P⊢
 rw[pk,mul_one]at q2
 let ⟨d1,d2⟩:=im.1 c.ds
 have i:(fx o:Fx p)∣fx f:=HT
 refine⟨⟨q1,?_,?_,?_,?_,b.m1⟩,⟨λk Q=>?_,d2⟩,P⟩
 .rw[b.prod,q2,aaE,qK];have e:ad ((n:Z)*(m:Z))=n*m:=by rw[<-fF,aV]
  simp only[e,rV];ac_rfl
 .intro x a;rcases b8.1 a with a|a
  .exact b.fq x a
  .have e:=iu.1 a;subst e;refine⟨d,g2,C,?_⟩;have:=xF (S:0<n) (show 0<m from b.m1);show(1:Z)<=(n:Z)*(m:Z);rw[<-fF];omega
 .intro x a;rcases b8.1 a with a|a
  .exact λq=>b.nd x a<|dvd_trans q i
  .have e:=iu.1 a;subst e;exact F
 .refine tD.2 ⟨b.ds,Ib _ _,λx a y s e=>?_⟩;have t:=iu.1 s;subst t;exact b.nd x a (by rw[e];exact E)
 .let ⟨k1,R,r,U⟩:=c.ok k (by simp[Q]);refine⟨k1,R,r,?_⟩;rw[q2]at U;rcases r.nq H U with e|e
  .exact e
  .exact absurd (aaG H k1 d C R<|MO H r n e).symm<|d1 k Q
def jf(p:I)(f:V Z):V Z:=(aJ f (c8 p f<|au<|dG p f) p).1
def amh{p}(H:aX p){f}(a:Mon p f)(F:2<=G f)(hd:au (dG p f)≠[]):Mon p (jf p f)/\2<=G (jf p f)/\G (jf p f)<=G f/\jz (fx (jf p f):Fx p)/\(fx (jf p f):Fx p)∣fx f/\wv p f (nv H (jf p f)|>.filter λ_=>true)\/200<G f:=by
 by_cases K:G f<=200
 .left;have i:aY p (au<|dG p f):=gH H.pos<|zJ qM f;have m:(fx (au<|dG p f):Fx p)=bp (fx f):=by rw[pK,MN]
  let ⟨m1,X,h,U,z,j⟩:=qQ H a.c i a.ne;have B:(fx (au<|dG p f):Fx p)≠0:=λe=>by rw[<-jX]at e;exact hd<|pL i (nS H.pos) e
  have o:G (c8 p f<|au<|dG p f)<=G f-1:=by have q:=fV H h B;have F:=Bz H (fx f:Fx p);rw[<-m,bO a.c]at F;rw[bO m1.c]at q;omega
  have P:=Ec H a m1 S;have Q:=rZ H a.c m1.c m1.ne X;let ⟨_,_,_,_,_,C⟩:=iO H.hp H.le a.c.1 m1.c m1.ne;have A:=m1.pos;have b:jz (fx (jf p f):Fx p):=R6 H (a.gI H) Q (by rw[<-m];exact j);have n:(fx (jf p f):Fx p)∣fx f:=by rw[Q];exact dvd_mul_right _ _
  have R:G (jf p f)=G f-(G (c8 p f<|au<|dG p f)-1):=C;have d:=SN H P (S:2<=G (jf p f)) (S:G (jf p f)<=200) b;have d:pQ p (jf p f) (nv H<|jf p f):=d;refine⟨P,S,S,b,n,?_⟩;rw[List.filter_eq_self.2 λ_ _=>rfl];refine⟨λg v=>?_,?_⟩
  .let ⟨s,g2,t⟩:=d.parts g v;exact⟨s,g2,t,dvd_trans (by rw[<-d.prod];exact x6 p v) n⟩
  .have E:∀l:V (V Z),(∀g∈l,bw (fx g:Fx p))->eD p l∣fx (jf p f)->l.Pairwise λx y=>x≠y:=by
    intro l;induction l with
    |nil=>intro _ _;exact wu
    |cons g l u=>
     intro W r
     refine im.2 ⟨λk w e=>?_,u (λx hx=>W x iB) (dvd_trans (dvd_mul_left _ _) r)⟩
     subst e
     exact b _ (W g ax)<|dvd_trans (tx (dvd_refl _)<|x6 p w) r
   exact E _ (λg v=>(d.parts g v).2.2) (by rw[d.prod];exact dvd_refl _)
 .right;omega
noncomputable def fY(p:I)(m:I):V (V Z)->V Z×V (V Z×Z)->V Z×V (V Z×Z)
 |[],x=>x
 |g::a,x=>fY p m a ((pull p g (G x.1+1) x.1 0).1,x.2++[(g,(((pull p g (G x.1+1) x.1 0).2:I):Z)*(m:Z))])
def Ic{p:I}(H:aX p){c:Fx p}{m:I}:∀(a:V (V Z))(f:V Z)(l:V (V Z×Z)),mY p c f m l->wv p f a->mY p c (fY p m a (f,l)).1 m (fY p m a (f,l)).2/\(fY p m a (f,l)).1.length<=G f/\(a≠[]->(fY p m a (f,l)).1.length<G f)
 |[],_,_,b,_=>⟨b,a8 _,λi=>absurd J i⟩
 |g::a,f,l,b,k=>by let ⟨i1,i2,i3⟩:=b.pull H k;let ⟨n,d,_⟩:=Ic H a _ _ i1 i2;rw[fY];exact⟨n,by simp only at d⊢;omega,λ_=>by simp only at d⊢;omega⟩
noncomputable def pS{p:I}(H:aX p):I->V Z->I->V (V Z×Z)->V (V Z×Z)
 |0,_,_,l=>l
 |k+1,f,m,l=>if G f<=1 then l else if au (dG p f)=[]then pS H k (ia p f<|fi p<|G f) (m*p) l else pS H k (fY p m (nv H<|jf p f) (f,l)).1 m (fY p m (nv H<|jf p f) (f,l)).2
def aaH{p}(H:aX p){f}(r:Mon p f)(v:2<=G f)(d:G f<=200)(x:au (dG p f)≠[]):Mon p (jf p f)/\2<=G (jf p f)/\G (jf p f)<=G f/\jz (fx (jf p f):Fx p)/\(fx (jf p f):Fx p)∣fx f/\wv p f (nv H<|jf p f)/\nv H (jf p f)≠[]/\G (nv H<|jf p f)<=200:=by
 rcases amh H r v x with h|h
 .let ⟨a,i,B,k,C,m⟩:=h;rw[List.filter_eq_self.2 λ_ _=>rfl]at m;have b:=SN H a i S k;refine⟨a,i,B,k,C,m,λe=>?_,?_⟩
  .have:=b.prod;rw[e,eD]at this;have E:sz (fx (jf p f):Fx p)=1:=by rw[<-this,np H]
   rw[bO a.c]at E;omega
  .let ⟨_,F⟩:=H7 H (l:=nv H<|jf p f) λg n=>⟨(b.parts g n).1,(b.parts g n).2.1⟩
   rw[b.prod,bO a.c]at F;omega
 .omega
def Ie{p}(H:aX p){f}(a:au (dG p f)=[]):bp (fx f:Fx p)=0:=by rw[<-MN,<-pK,a,jX]
def SU{p:I}(H:aX p){g:Fx p}:∀(k:I)(f:V Z)(m:I)(l:V (V Z×Z)),G f<=k->G f<=200->mY p g f m l->∃i n,G i<=1/\mY p g i n (pS H k f m l)
 |0,f,m,l,r,_,a=>⟨f,m,S,a⟩
 |k+1,f,m,l,r,b,a=>by
  rw[pS];by_cases d:G f<=1
  .rw[s d];exact⟨f,m,d,a⟩
  .rw[M d];by_cases c:au (dG p f)=[]
   .rw[s c];have E:=Ia H a.aG S<|Ie H c;exact SU H k _ _ l S S<|a.root H S<|Ie H c
   .rw[M c];let ⟨_,_,_,_,_,v,x,_⟩:=aaH H a.aG S b c;let ⟨p1,C,B⟩:=Ic H _ f l a v;have:=B x;exact SU H k _ m _ S S p1
structure pT(p:I)(F:Fx p)(l:V (V Z×Z)):Prop where
 parts:∀x∈l,Mon p x.1/\2<=x.1.length/\bw (fx x.1:Fx p)/\1<=x.2
 ds:l.Pairwise λx a=>x.1≠a.1
 prod:ib p l=F
def ami{p}(H:aX p){f}(g:Mon p f)(a:G f<=200):pT p (fx f) (pS H (G f) f 1 []):=by
 let ⟨d,m,i,h⟩:=SU H (G f) f 1 [] (a8 _) a (mY.start g);refine⟨h.fq,h.ds,?_⟩;have k:=h.aG.pos;have l:(fx d:Fx p)=1:=by
  rw[<-uT];congr 1;have b:=h.aG.one;match d,i,k,b with
  |[c],_,_,b=>rw[show c=1 from b]
 rw[h.prod,l,wg,one_mul]
def aaI{p n k}(a:0<p):k*p<n↔k<fi p n:=by
 unfold fi;have b:=sZ (n+p-1) p;have c:=fg (n+p-1) a;rw[fR]at b;constructor
 .intro h;refine dQ λd=>?_
  have:=eB p (S:(n+p-1)/p<=k);omega
 .intro h;have:=eB p (S:k+1<=(n+p-1)/p);rw[g7,iL]at this;omega
def amj p f k:ia p f k++[Y f (k*p) 0]=ia p f (k+1):=by unfold ia;rw[nE,fe];rfl
def aaJ p f k:G (ia p f k)=k:=by simp[ia]
def amk{p}(H:aX p) f0(jM:Mon p f0)(MJ:G f0<=200):lK j 63 [aP f0 p] 33 MT (pS H (G f0) f0 1 []):=by
 have r7:=H.hp.1;have BI:=H.le;have ki:sz (fx f0:Fx p)=G f0:=bO jM.c;refine vT Tryz.func63 J J J J A ?_;refine e J<|e J<|e J ?_;refine L<|q<|aK (α:=I×V Z×I×V (V Z×Z)) (λx=>⟨[(1,.c<|.P 0 0),(3,.c<|.X 3000000),(4,D x.2.2.1)],[(3000000,.vec 33 MT x.2.2.2),(0,.box 101 0 [.S u x.2.1,.I .u64 p])],4,[]⟩) (λx=>pS H x.1 x.2.1 x.2.2.1 x.2.2.2=pS H (G f0) f0 1 []/\G x.2.1<=x.1/\G x.2.1<=200/\mY p (fx f0) x.2.1 x.2.2.1 x.2.2.2) (λx=>G x.2.1) (G f0,f0,1,[]) ⟨J,a8 _,MJ,mY.start jM⟩ ?_ ?_
 .exact r6 3000000 33 MT ⟨.inl<|sR J,.inr ⟨J,J⟩,.inl<|sR J,T⟩ ⟨bE J J,T⟩ J<|eC.of J
 rintro⟨k,f,m,l⟩ ⟨W,hk,y,r⟩;simp only at W hk y r;let ⟨bl,bx,bm⟩:=r.bounds H;have RH:=r.m1;have hfp:=r.aG.pos;refine L<|aO J J (tf f p S) J<|z J (λh=>?_)<|λh=>?_
 .have h:2<=G f:=by have h:(G f:Z)-1>0:=az h;omega
  obtain⟨k,rfl⟩:∃d,k=d+1:=⟨k-1,S⟩;have aml:=aaD H f y r.aG.c.1;rw[pS,M S]at W;have bm:=bm h;refine ai<|q<|aO J J aml J ?_;refine L<|e J<|z J (λE=>?_)<|λE=>ai ?_
  .have E:au (dG p f)=[]:=by have E:((G (au<|dG p f):I):Z)=0:=eq_of_beq E;exact et S
   rw[s E]at W;have hR:=r.root H h<|Ie H E;let ⟨e1,e2,e3,e4⟩:=Ia H r.aG h<|Ie H E;have bRz:=(hR.bounds H).2.2 e3;refine e J<|L<|e J<|q<|aK (α:=I) (λd=>⟨[(1,.c<|.P 0 0),(3,.c<|.X 3000000),(4,D m),(6,.c<|.X 9000000),(7,D ((d*p:I):Z))],[(9000000,.vec 25 u<|ia p f d),(3000000,.vec 33 MT l),(0,.box 101 0 [.S u f,.I .u64 p])],10,[]⟩) (λd=>d<=fi p (G f)) (λd=>fi p (G f)-d) 0 (aW _) ?_ ?_
   .exact r6 9000000 25 u ⟨.inl<|sR J,.inl<|sR J,.inl<|sR J,.inr ⟨J,J⟩,.inl ⟨_,J,a7.of_eq<|aC (λw:I=>D (w:Z)) (vQ p).symm⟩,T⟩ (jv J) J<|eC.of J
   intro d hq;have hel:=aaJ p f d;have hek:=aaJ p f<|fi p<|G f;generalize hz:d*p=w at*;refine L<|e J<|z J (λF=>?_)<|λF=>?_
   .have F:w<G f:=by have F:(w:Z)<(G f:Z):=az F;omega
    have SV:=(aaI (S:0<p)).1 (S:d*p<G f);refine ai<|L<|q<|bs ?_;refine rl u [_] J J (hp:=ak) (ra J J J J J J J J J ?_ ?_<|o J ?_)
    .show(_+1+(_+1)/4+192)*8<=_;omega
    .show(_+1)*1<=_;omega
    refine aT<|rt J (aA (d+1) SV (S:fi p (G f)-(d+1)<fi p (G f)-d)<|Wk.trans (wk (st':=⟨[(1,.c<|.P 0 0),(3,.c<|.X 3000000),(4,D m),(6,.c<|.X 11007000),(7,D (((d+1)*p:I):Z))],[(11007000,.vec 25 u<|ia p f<|d+1),(3000000,.vec 33 MT l),(0,.box 101 0 [.S u f,.I .u64 p])],13,[]⟩) ⟨sR J,sR J,sR J,sR J,sE J ?_,T⟩ ⟨bE J ?_,bE J J,bE J J,T⟩)<|Wk.trans (fp 9000000 11007000 J J J) aM) (hp:=?_)
    .refine aC D ?_;rw[g7,hz,iL,uG]
    .refine aC (aH.vec 25 u) ?_;rw[<-amj,aV,hz]
    .simp only[Pr.an,Pr.h,num,eO,true_and,and_true];omega
   .have SV:d=fi p (G f):=by
     have F:¬(w:Z)<(G f:Z):=aL F;have:=λiD=>(aaI (n:=G f) (k:=d) (S:0<p)).2 iD
     rcases oG d (fi p<|G f)with bZ|bZ
     .have:=this bZ;omega
     .omega
    subst SV;have hmp:(m:Z)*(p:Z)=((m*p:I):Z):=(fF m p).symm;refine aN<|ay<|cD 9000000 J J J<|e J<|e J (hp:=?_)<|jS<|lJ<|jT<|aA (k,ia p f<|fi p<|G f,m*p,l) ⟨W,(S:G (ia p f<|fi p<|G f)<=k),(S:G (ia p f<|fi p<|G f)<=200),hR⟩ (S:G (ia p f<|fi p<|G f)<G f)<|wk ⟨sR J,sR J,sE J ?_,T⟩<|jv J
    .exact aC D hmp
    .simp only[Pr.an,Pr.h,num,eO,true_and,and_true];rw[hmp];omega
  .have E:au (dG p f)≠[]:=by intro bZ;have E:((G (au<|dG p f):I):Z)≠0:=fT E;rw[bZ]at E;exact E J
   rw[M E]at W;let ⟨w1,w2,w3,w4,w5,w6,w7,w8⟩:=aaH H r.aG h y E;let ⟨z1,z2,z3⟩:=Ic H (nv H<|jf p f) f l r w6;have z3:=z3 w7;have hdc:aY p (au<|dG p f):=gH H.pos<|zJ S f;have hdl:G (au<|dG p f)<=G f:=by have:=kK<|dG p f;rw[zI]at this;omega
   let ⟨m1,m2,m3,_⟩:=qQ H r.aG.c hdc r.aG.ne;have mX:G (c8 p f<|au<|dG p f)<=G f:=by have:=fV H m2<|r.aG.gI H;rwa[bO m1.c,bO r.aG.c]at this
   have Su:=L0 p H.hp H.le f (au<|dG p f) S S r.aG.c hdc r.aG.ne;have hdiv:=xU p H.hp H.le f (c8 p f<|au<|dG p f) S S r.aG.c.1 m1.c r.aG.ne m1.ne;have amo:=aaA H (jf p f) w1 w2 S w4;have hSl:G (lP p<|nv H<|jf p f)=G (nv H<|jf p f):=MI p _;generalize nv H (jf p f)=Ls at*;refine t<|rc J J Su<|rc J J hdiv<|o J ?_;refine aO J J amo J ?_;refine q<|aK (α:=I×V Z×V (V Z×Z)) (λx=>⟨[(1,.c<|.P 0 0),(3,.c<|.X 3000000),(4,D m),(60,N PT<|lP p Ls),(61,D Ls.length),(62,D x.1)],[(3000000,.vec 33 MT x.2.2),(0,.box 101 0 [.S u x.2.1,.I .u64 p])],9,[]⟩) (λx=>x.1<=Ls.length/\fY p m (Ls.drop x.1) x.2=fY p m Ls (f,l)/\mY p (fx f0) x.2.1 m x.2.2/\wv p x.2.1 (Ls.drop x.1)/\G x.2.1<=200) (λx=>Ls.length-x.1) (0,f,l) ⟨aW _,J,r,w6,y⟩ ?_ ?_
   .refine(wk ⟨sR J,sR J,sR J,sR J,sE J ?_,sR J,T⟩<|jv J);exact aC (λw:I=>D (w:Z)) hSl
   rintro⟨v,i,l1⟩ ⟨hj,hP,b,O,MQ⟩;simp only at hj hP b O MQ;let ⟨cl,cx,_⟩:=b.bounds H;have avk:=b.aG.pos;refine e J<|L<|z J (λF=>?_)<|λF=>?_
   .have R:v<Ls.length:=by have F:(v:Z)<(Ls.length:Z):=az F;omega
    have amq:Ls.drop v=Ls[v]::Ls.drop (v+1):=lY R;have hgj:Y (lP p Ls) (ad<|(v:Z)) ([],0)=(Ls[v],(p:Z)):=by rw[aV,aax R]
    rw[amq]at hP O;generalize Ls[v]=g at*;let ⟨K,g2,g3,g4⟩:=O.ok g ax;have avl:G g<=G i:=by have:=fV H g4<|b.aG.gI H;rwa[bO K.c,bO b.aG.c]at this
    let ⟨r1,r2,r3⟩:=b.pull H O;have cx2:=(r1.bounds H).2.1 (g,(((pull p g (G i+1) i 0).2:I):Z)*(m:Z)) ax;let ⟨_,_,_,_,r5,_⟩:=SR H K g2 (G i+1) i 0 (di _) b.aG;rw[fY]at hP;have amr:af j 127 [aP i p,.a<|av PT<|Y (lP p Ls) (ad<|(v:Z)) ([],0)] (.t [(true,[.S u (aJ i g p).1,.I .u64 p]),(true,[.S u (aJ i g p).2,.I .u64 p])]):=by rw[hgj];exact xU p H.hp H.le i g S S b.aG.c.1 K.c b.aG.ne K.ne
    refine ai<|L<|q<|e J (hp:=ak)<|e J ?_;refine L<|aO J J amr J ?_;refine q<|aK (α:=I×V Z×I) (λx=>⟨[(1,.c<|.P 0 0),(3,.c<|.X 3000000),(4,D m),(60,N PT<|lP p Ls),(61,D Ls.length),(62,D v),(11,.c<|.P 10002000 0),(12,D x.2.2),(13,.c<|.P 12006000 0),(14,.c<|.P 12007000 0)],[(3000000,.vec 33 MT l1),(0,.box 101 0 [.S u x.2.1,.I .u64 p]),(10002000,.box 101 0 [.S u g,.I .u64 p]),(12006000,.box 101 0 [.S u (aJ x.2.1 g p).1,.I .u64 p]),(12007000,.box 101 0 [.S u (aJ x.2.1 g p).2,.I .u64 p])],13,[]⟩) (λx=>pull p g x.1 x.2.1 x.2.2=pull p g (G i+1) i 0/\G x.2.1<x.1/\Mon p x.2.1/\x.2.2+G x.2.1<=G i) (λx=>G x.2.1) (G i+1,i,0) ⟨J,di _,b.aG,by show 0+G i<=_;omega⟩ ?_ ?_
    .refine(wk (aS J) ⟨bR J,bR J,bE J ?_,bR J,bR J,T⟩);exact aC (λw:V Z×Z=>aH.box 101 0 [.S u w.1,.I .u64 w.2]) hgj
    rintro⟨kf,B,n⟩ ⟨U,ams,C,hp4⟩;simp only at U ams C hp4;have avm:=C.pos;obtain⟨kf,rfl⟩:∃d,kf=d+1:=⟨kf-1,S⟩;refine L<|e J<|z J (λQ=>?_)<|λQ=>?_
    .have Q:(aJ B g p).2=[]:=by have Q:(((aJ B g p).2.length:I):Z)=0:=eq_of_beq Q;exact et S
     have Eu:=(HE H C.c K.c K.ne).1 Q;have amu:G g<=G B:=by have:=fV H Eu<|C.gI H;rwa[bO K.c,bO C.c]at this
     have hq:=Ec H C K amu;let ⟨_,_,_,_,_,DH⟩:=iO H.hp H.le C.c.1 K.c K.ne;have MR:=hq.pos;rw[pull,s Q]at U;have amv:=xU p H.hp H.le (aJ B g p).1 g S S hq.c.1 K.c hq.ne K.ne;refine ai<|L<|q<|e J<|rt J (hp:=ak)<|aT<|L<|e J<|rt J<|ay<|bs<|rc J J amv<|o J ?_;refine aA (kf,(aJ B g p).1,n+1) ⟨U,(S:(aJ B g p).1.length<kf),hq,(S:n+1+(aJ B g p).1.length<=G i)⟩ (S:(aJ B g p).1.length<G B) ?_;refine Wk.trans (wi (mw 12006000 17000000) (st':=⟨[(1,.c<|.P 0 0),(3,.c<|.X 3000000),(4,D m),(60,N PT<|lP p Ls),(61,D Ls.length),(62,D v),(11,.c<|.P 10002000 0),(12,D ((n+1:I):Z)),(13,.c<|.P 12006000 0),(14,.c<|.P 17002000 0)],[(3000000,.vec 33 MT l1),(0,.box 101 0 [.S u (aJ B g p).1,.I .u64 p]),(10002000,.box 101 0 [.S u g,.I .u64 p]),(12006000,.box 101 0 [.S u (aJ (aJ B g p).1 g p).1,.I .u64 p]),(17002000,.box 101 0 [.S u (aJ (aJ B g p).1 g p).2,.I .u64 p])],19,[]⟩) ⟨sR J,sR J,sR J,sR J,sR J,sR J,sR J,sR J,sR J,sR J,T⟩ ⟨bE J J,bE J J,bE J J,bE J J,bE J J,T⟩ J (Eo J)<|eC.of J) ?_;exact wi (mw 12007000 17002000) ⟨sR J,sR J,sR J,sR J,sR J,sR J,sR J,sR J,sR J,sR J,T⟩ ⟨bE J J,bE J J,bE J J,bE J J,bE J J,T⟩ J (Eo J)<|eC.of J
    .have Q:(aJ B g p).2≠[]:=by intro bZ;have Q:(((aJ B g p).2.length:I):Z)≠0:=fT Q;rw[bZ]at Q;exact Q J
     rw[pull,M Q]at U;rw[<-U]at cx2 r1 r2 r3 hP r5;simp only at cx2 r1 r2 r3 hP r5;refine aN<|ay ?_;refine bs<|rl MT [(g,(n:Z)*(m:Z))] J J (ra J J J J J J J J J ?_ ?_<|o J ?_) (hp:=?_)
     .show(_+1+(_+1)/4+192)*32<=_;omega
     .show(_+1)*2<=_;omega
     .exact aT<|rt J (hp:=ak)<|aA (v+1,B,l1++[(g,(n:Z)*(m:Z))]) ⟨R,hP,r1,r2,(S:G B<=200)⟩ (S:Ls.length-(v+1)<Ls.length-v)<|Wk.trans (wk (st':=⟨[(1,.c<|.P 0 0),(3,.c<|.X 14008000),(4,D m),(60,N PT<|lP p Ls),(61,D Ls.length),(62,D ((v+1:I):Z))],[(14008000,.vec 33 MT<|l1++[(g,(n:Z)*(m:Z))]),(0,.box 101 0 [.S u B,.I .u64 p])],16,[]⟩) (aS J) ⟨bE J J,bE J J,T⟩)<|Wk.trans (fp 3000000 14008000 J J J) aM
     .have hnm:=jm (S:(0:Z)<=(n:Z)) (S:(0:Z)<=(m:Z));simp only[Pr.an,Pr.h,num,eO,true_and,and_true];omega
   .have R:v=Ls.length:=by have F:¬(v:Z)<(Ls.length:Z):=aL F;omega
    subst R;rw[BO,fY]at hP;rw[<-hP]at z1 z3 W;simp only at z1 z3 W;exact aN<|dy<|aA (k,i,m,l1) ⟨W,(S:G i<=k),MQ,b⟩ (S:G i<G f) aM
 .have h:G f<=1:=by have h:¬(G f:Z)-1>0:=aL h;omega
  have hl:pS H k f m l=l:=by
   cases k with
   |zero=>rfl
   |succ k=>rw[pS,s h]
  rw[hl]at W;rw[<-W];exact aN<|ay<|e J<|bc<|uD (id:=3000000) a6 J J
end Go.El
namespace Go.El
open Go Go.Proofs
def jg(a b:Z):Z:=if a<b then-1 else if a>b then 1 else 0
def oy(a b:V Z):I->Z
 |0=>0
 |i+1=>if jg (Y a i 0) (Y b i 0)≠0 then jg (Y a i 0) (Y b i 0)else oy a b i
def ic(a b:V Z):Z:=if G a≠G b then jg (G a) (G b)else oy a b (G a)
def aaO a:af j 132 [cU a] (cB ah):=by refine aD Tryz.func132 ?_;refine e J<|e J<|bq J ?_;simp
def aaP a:af j 195 [D a] (cB ah):=by refine aD Tryz.func195 ?_;refine e J<|e J<|bq J ?_;simp
def amw a b:af j 67 [cU a,cU b] (D<|jg a b):=by
 refine aD Tryz.func67 ?_;refine e J<|aO J J (aaO a) J<|t<|rc J J (aaO b)<|o J<|L<|e J<|z J (λh=>bS)<|λ_=>ai ?_;refine L<|e J<|z J (λh=>bS)<|λ_=>ai ?_;refine L<|e J<|z J (λh=>?_)<|λh=>ai ?_
 .have h:a<b:=az h;refine e J<|bc<|bt<|c9 J ?_;rw[jg,s h];rfl
 .have h:¬a<b:=aL h;refine L (e J<|z J (λc=>?_)<|λc=>ai ?_)
  .have c:a>b:=az c;refine e J<|bc<|bt<|c9 J ?_;rw[jg,M h,s c];rfl
  .have c:¬a>b:=aL c;refine e J<|bq J ?_;rw[jg,M h,M c];rfl
def aaQ a b:af j 131 [D a,D b] (D<|jg a b):=by
 refine aD Tryz.func131 ?_;refine e J<|aO J J (aaP a) J<|t<|rc J J (aaP b)<|o J<|L<|e J<|z J (λh=>bS)<|λ_=>ai ?_;refine L<|e J<|z J (λh=>bS)<|λ_=>ai ?_;refine L<|e J<|z J (λh=>?_)<|λh=>ai ?_
 .have h:a<b:=az h;refine e J<|bc<|bt<|c9 J ?_;rw[jg,s h];rfl
 .have h:¬a<b:=aL h;refine L (e J<|z J (λc=>?_)<|λc=>ai ?_)
  .have c:a>b:=az c;refine e J<|bc<|bt<|c9 J ?_;rw[jg,M h,s c];rfl
  .have c:¬a>b:=aL c;refine e J<|bq J ?_;rw[jg,M h,M c];rfl
abbrev l7(f:I):AV:= .c<|.V<|.func (.func f) ⟨[]⟩ ⟨[]⟩
def amx(a b:V Z)(p:G a<=1000)(r:G b<=1000):af j 66 [N u a,N u b,l7 67] (D<|ic a b):=by
 refine aD Tryz.func66 ?_;refine e J<|L<|e J<|z J (λh=>?_)<|λh=>ai ?_
 .have h:G a≠G b:=λf=>by simp[f]at h
  refine aO J J (aaQ (G a)<|G b) J<|bc<|bt<|c9 J ?_;rw[ic,s h]
 .have h:G a=G b:=by have:(G a:Z)=(G b:Z):=du;omega
  have l:ic a b=oy a b (G a):=by rw[ic,M<|λf=>f h]
  rw[l];refine L<|e J<|q<|aK (α:=I) (λi=>⟨[(0,N u a),(1,N u b),(2,l7 67),(7,D<|(i:Z)-1)],[],3,[]⟩) (λi=>i<=G a/\oy a b i=oy a b (G a)) (λi=>i) (G a) ⟨a8 _,J⟩ aM ?_;rintro i ⟨v,g⟩;refine L<|e J<|z J (λc=>?_)<|λc=>?_
  .have c:0<i:=by have c:(i:Z)-1>=0:=az c;omega
   obtain⟨i,rfl⟩:∃k,i=k+1:=⟨i-1,S⟩;have m:ad (((i+1:I):Z)-1)=i:=S;have n:af j 67 ([]++([cU (Y a (ad<|((i+1:I):Z)-1) 0),cU<|Y b (ad<|((i+1:I):Z)-1) 0]++[])) (D<|jg (Y a i 0)<|Y b i 0):=by rw[m];exact amw _ _
   rw[oy]at g;refine ai<|L<|q<|t<|BF J J (.inl ⟨J,J,J⟩) J n (o J<|e J<|z J (λd=>?_)<|λd=>?_) (hp:=ak)
   .have d:jg (Y a i 0) (Y b i 0)≠0:=λf=>by rw[f]at d;simp at d
    rw[s d]at g;rw[<-g];exact e J<|bc<|eH<|bt<|gf<|eH<|bt<|atR J
   .have d:jg (Y a i 0) (Y b i 0)=0:=by generalize jg (Y a i 0) (Y b i 0)=x at*;simpa using d
    rw[M (λf=>f d)]at g;refine bN<|aT<|rt J (hp:=ak)<|aA i ⟨S,g⟩ (S:i<i+1)<|wk ⟨sR J,sR J,sR J,sE J ?_,T⟩ T;exact aC D S
  .have c:i=0:=by have c:¬(i:Z)-1>=0:=aL c;omega
   subst c;rw[<-g];exact aN<|ay<|e J<|bU J
def amy(x b:V Z×Z)(lx:G x.1<=1000)(c:G b.1<=1000):af j 65 ([]++([.a (av MT x),.a<|av MT b]++[])) (D<|ic x.1 b.1):=by refine aD Tryz.func65 ?_;exact e J<|aO J J (amx x.1 b.1 lx c) J<|bU J
section
variable{α:Type}{d:α}{cm:α->α->Z}
def uX(d:α)(xs:V (α))(a:I):V (α):=(xs.set (a+1)<|Y xs a d).set a<|Y xs (a+1) d
def qU(d:α)(cm:α->α->Z):I->V (α)->V (α)
 |0,xs=>xs
 |a+1,xs=>if cm (Y xs (a+1) d) (Y xs a d)<0 then qU d cm a (uX d xs a)else xs
def jh(d:α)(cm:α->α->Z)(xs:V (α)):I->V (α)
 |0=>xs
 |i+1=>qU d cm (i+1)<|jh d cm xs i
def If xs a:G (uX d xs a)=G xs:=by simp[uX]
def aaR:∀(a:I)(xs:V (α)),G (qU d cm a xs)=G xs
 |0,_=>rfl
 |a+1,xs=>by
  rw[qU];split
  .rw[aaR a,If]
  .rfl
def zK(xs:V (α)):∀i,G (jh d cm xs i)=G xs
 |0=>rfl
 |i+1=>by rw[jh,aaR,zK xs i]
def BP{xs}{i}(a:i<G xs):Y xs i d=xs[i]:=by rw[aF,bD a];rfl
def SW{xs}{c}(f:c+1<G xs):(uX d xs c).Perm xs:=by
 have g:xs=y c xs++(xs[c]::xs[c+1]::aE (c+2) xs):=by rw[<-lY f,<-lY (S:c<G xs),ri]
 have i:uX d xs c=y c xs++(xs[c+1]::xs[c]::aE (c+2) xs):=by
  unfold uX;rw[BP f,BP (S:c<G xs)];generalize xs[c]=a at*;generalize xs[c+1]=b at*;generalize hA:y c xs=A at*;generalize aE (c+2) xs=B at*;have k:G A=c:=by rw[<-hA,il];omega
  rw[g,oR _ _ S,oR _ _ S,k,gx,(S:c+1-c=1)];rfl
 rw[i];conv=>rhs;rw[g]
 exact(amz _ _ _).append_left _
def aaS:∀(a:I)(xs:V (α)),a<G xs->(qU d cm a xs).Perm xs
 |0,_,_=>uY _
 |a+1,xs,b=>by
  rw[qU];split
  .exact(aaS a _<|by rw[If];omega).trans<|SW b
  .exact uY _
def Ig(xs:V (α)):∀i,i<G xs->(jh d cm xs i).Perm xs
 |0,_=>uY _
 |i+1,a=>(aaS (i+1) _<|by rw[zK];exact a).trans<|Ig xs i S
def aaT{xs}{i}(a:i=0\/i<G xs){x}(b:x∈jh d cm xs i):x∈xs:=by
 rcases a with rfl|a
 .exact b
 .exact(Ig xs i a).mem_iff.1 b
def amA{xs}{j}(b:j+1<G xs) a:Y (uX d xs j) a d=if a=j then Y xs (j+1) d else if a=j+1 then Y xs j d else Y xs a d:=by
 have g:∀(l:V (α))(i c:I)(x:α),i<G l->Y (l.set i x) c d=if i=c then x else Y l c d:=by
  intro l i c x b;rw[aF,Dw];by_cases e:i=c
  .subst e;rw[s J,s J,s b];rfl
  .rw[M e,M e,aF]
 unfold uX;rw[g _ _ _ _ (by rw[fP];omega),g _ _ _ _ b];by_cases e:j=a
 .subst e;rw[s J,s J]
 .have k:¬a=j:=λq=>e q.symm
  rw[M e,M k];by_cases f:j+1=a
  .subst f;rw[s J];first|done|rw[s rfl]
  .have m:¬a=j+1:=λq=>f q.symm
   rw[M f,M m]
def Ih(d:α)(cm:α->α->Z)(xs:V (α))(k:I):Prop:=∀t,t<k->0<=cm (Y xs (t+1) d) (Y xs t d)
def aaU(g:∀a b,cm a b= -cm b a){n:I}:∀(f:I)(xs:V (α)),n<G xs->f<=n->(∀c,c+1<f->0<=cm (Y xs (c+1) d) (Y xs c d))->(∀c,f<=c->c<n->0<=cm (Y xs (c+1) d) (Y xs c d))->(f<n->0<f->0<=cm (Y xs (f+1) d) (Y xs (f-1) d))->Ih d cm (qU d cm f xs) n
 |0,xs,_,_,_,h2,_=>λc k=>h2 c (aW _) k
 |f+1,xs,r,F,m,h2,v=>by
  rw[qU];split
  .rename_i x;have i:=λc=>amA (d:=d) (xs:=xs) (j:=f) S c
   refine aaU g f (uX d xs f) (by rw[If];exact r) S (λc k=>?_) (λc B p=>?_)<|λ_ C=>?_
   .rw[i,i,M S,M S,M S,M S];exact m c S
   .rw[i,i];by_cases e:c=f
    .subst e;rw[M S,s J,s J,g];omega
    .rw[M S,M S];by_cases l:c=f+1
     .subst l;rw[M S,s J];exact v S S
     .rw[M S,M l];exact h2 c S p
   .rw[i,i,M S,s J,M S,M S];have:=m (f-1) S;rwa[(S:f-1+1=f)]at this
  .rename_i E;intro c k;by_cases e:c<f
   .exact m c S
   .by_cases l:c=f
    .subst l;omega
    .exact h2 c S k
def SX(c:∀a b,cm a b= -cm b a)(xs:V (α)):∀i,i<G xs->Ih d cm (jh d cm xs i) i
 |0,_=>λf g=>by omega
 |i+1,k=>by have l:=SX c xs i S;rw[jh];exact aaU c (i+1) _ (by rw[zK];exact k) (a8 _) (λf g=>l f S) (λf m n=>S)<|λm=>S
end
open Fx
abbrev fA:V Z×Z:=([],0)
def wy(xs:V (V Z×Z))(a:I):V (V Z×Z):=(xs.set (a+1)<|Y xs a fA).set a<|Y xs (a+1) fA
def uZ:I->V (V Z×Z)->V (V Z×Z)
 |0,xs=>xs
 |a+1,xs=>if ic (Y xs (a+1) fA).1 (Y xs a fA).1<0 then uZ a (wy xs a)else xs
def ma(xs:V (V Z×Z)):I->V (V Z×Z)
 |0=>xs
 |i+1=>uZ (i+1)<|ma xs i
def MS xs a:G (wy xs a)=G xs:=by simp[wy]
def aaV:∀(a:I)(xs:V (V Z×Z)),G (uZ a xs)=G xs
 |0,_=>rfl
 |a+1,xs=>by
  rw[uZ];split
  .rw[aaV a,MS]
  .rfl
def Ev(xs:V (V Z×Z)):∀i,G (ma xs i)=G xs
 |0=>rfl
 |i+1=>by rw[ma,aaV,Ev xs i]
def getM{xs}{i}(a:i<G xs):Y xs i fA=xs[i]:=by rw[aF,bD a];rfl
def aaW{xs}{c}(d:c+1<G xs):(wy xs c).Perm xs:=by
 have f:xs=y c xs++(xs[c]::xs[c+1]::aE (c+2) xs):=by rw[<-lY d,<-lY (S:c<G xs),ri]
 have g:wy xs c=y c xs++(xs[c+1]::xs[c]::aE (c+2) xs):=by
  unfold wy;rw[getM d,getM (S:c<G xs)];generalize xs[c]=a at*;generalize xs[c+1]=b at*;generalize hA:y c xs=A at*;generalize aE (c+2) xs=B at*;have i:G A=c:=by rw[<-hA,il];omega
  rw[f,oR _ _ S,oR _ _ S,i,gx,(S:c+1-c=1)];rfl
 rw[g];conv=>rhs;rw[f]
 exact(amz _ _ _).append_left _
def aaX:∀(a:I)(xs:V (V Z×Z)),a<G xs->(uZ a xs).Perm xs
 |0,_,_=>uY _
 |a+1,xs,b=>by
  rw[uZ];split
  .exact(aaX a _<|by rw[MS];omega).trans<|aaW b
  .exact uY _
def SY(xs:V (V Z×Z)):∀i,i<G xs->(ma xs i).Perm xs
 |0,_=>uY _
 |i+1,a=>(aaX (i+1) _<|by rw[Ev];exact a).trans<|SY xs i S
def amB{xs}{i}(a:i=0\/i<G xs){x}(b:x∈ma xs i):x∈xs:=by
 rcases a with rfl|a
 .exact b
 .exact(SY xs i a).mem_iff.1 b
def amC{xs}{j}(b:j+1<G xs) a:Y (wy xs j) a fA=if a=j then Y xs (j+1) fA else if a=j+1 then Y xs j fA else Y xs a fA:=by
 have f:∀(l:V (V Z×Z))(i c:I)(x:V Z×Z),i<G l->Y (l.set i x) c fA=if i=c then x else Y l c fA:=by
  intro l i c x b;rw[aF,Dw];by_cases e:i=c
  .subst e;rw[s J,s J,s b];rfl
  .rw[M e,M e,aF]
 unfold wy;rw[f _ _ _ _ (by rw[fP];omega),f _ _ _ _ b];by_cases e:j=a
 .subst e;rw[s J,s J]
 .have g:¬a=j:=λq=>e q.symm
  rw[M e,M g];by_cases d:j+1=a
  .subst d;rw[s J];first|done|rw[s rfl]
  .have k:¬a=j+1:=λq=>d q.symm
   rw[M d,M k]
def aaY(xs:V (V Z×Z))(k:I):Prop:=∀t,t<k->0<=ic (Y xs (t+1) fA).1 (Y xs t fA).1
def SZ a b:jg a b= -jg b a:=by unfold jg;split<;>split<;>(try split)<;>omega
def aaZ(a b:V Z):∀i,oy a b i= -oy b a i
 |0=>rfl
 |i+1=>by
  rw[oy,oy,SZ (Y b i 0)<|Y a i 0,aaZ a b i];generalize jg (Y a i 0) (Y b i 0)=f;by_cases d:f=0
  .rw[M (λc=>c d),M<|λc=>c S]
  .rw[s d,s S];omega
def aa0 a b:ic a b= -ic b a:=by
 unfold ic;by_cases h:G a=G b
 .rw[M (λe=>e h),M<|λe=>e h.symm,aaZ,h]
 .rw[s h,s<|λe=>h e.symm,SZ]
def aa1{n:I}:∀(b:I)(xs:V (V Z×Z)),n<G xs->b<=n->(∀a,a+1<b->0<=ic (Y xs (a+1) fA).1 (Y xs a fA).1)->(∀a,b<=a->a<n->0<=ic (Y xs (a+1) fA).1 (Y xs a fA).1)->(b<n->0<b->0<=ic (Y xs (b+1) fA).1 (Y xs (b-1) fA).1)->aaY (uZ b xs) n
 |0,xs,_,_,_,h2,_=>λa d=>h2 a (aW _) d
 |b+1,xs,k,x,g,h2,l=>by
  rw[uZ];split
  .rename_i m;have c:=λa=>amC (xs:=xs) (j:=b) S a
   refine aa1 b (wy xs b) (by rw[MS];exact k) S (λa d=>?_) (λa p i=>?_)<|λ_ r=>?_
   .rw[c,c,M S,M S,M S,M S];exact g a S
   .rw[c,c];by_cases e:a=b
    .subst e;rw[M S,s J,s J,aa0];omega
    .rw[M S,M S];by_cases f:a=b+1
     .subst f;rw[M S,s J];exact l S S
     .rw[M S,M f];exact h2 a S i
   .rw[c,c,M S,s J,M S,M S];have:=g (b-1) S;rwa[(S:b-1+1=b)]at this
  .rename_i v;intro a d;by_cases e:a<b
   .exact g a S
   .by_cases f:a=b
    .subst f;omega
    .exact h2 a S d
def aa2(xs:V (V Z×Z)):∀i,i<G xs->aaY (ma xs i) i
 |0,_=>λa b=>by omega
 |i+1,c=>by have d:=aa2 xs i S;rw[ma];exact aa1 (i+1) _ (by rw[Ev];exact c) (a8 _) (λa b=>d a S) (λa f g=>S)<|λf=>S
def aa3(x:V Z×Z):js (.a<|y 2<|aE 0<|av MT x)=some (av MT x):=by rcases x with⟨a,b⟩;rfl
def amD(xs:V (V Z×Z))(P:xs.length<=12)(B:∀x∈xs,x.1.length<=1000):mR Tryz.prog 185 [.c (.X 0),D 0,D xs.length,l7 65] 33 MT xs (.t []) (ma xs<|xs.length-1):=by
 refine pB Tryz.func185 J J J J J A ?_;refine e J ?_;refine q<|aK (α:=I) (λi=>⟨[(0,.c<|.X 0),(1,D 0),(2,D xs.length),(3,l7 65),(8,D i)],[(0,.vec 33 MT<|ma xs<|i-1)],2,[]⟩) (λi=>1<=i/\i-1<=xs.length-1) (λi=>xs.length-i) 1 ⟨a8 _,aW _⟩ (wk (aS J) ⟨bE J J,T⟩) ?_;rintro i ⟨C,Q⟩;refine L<|e J<|z J (λh=>?_)<|λh=>?_
 .have h:i<xs.length:=by have h:(i:Z)<(xs.length:Z):=az h;omega
  have E:ma xs i=uZ i (ma xs<|i-1):=by obtain⟨m,rfl⟩:∃m,i=m+1:=⟨i-1,S⟩;rfl
  refine ai<|L<|q<|e J ?_;refine q<|aK (α:=I×V (V Z×Z)) (λx=>⟨[(0,.c<|.X 0),(1,D 0),(2,D xs.length),(3,l7 65),(8,D i),(9,D x.1)],[(0,.vec 33 MT x.2)],4,[]⟩) (λx=>uZ x.1 x.2=ma xs i/\x.1<=i/\x.2.length=xs.length/\∀k∈x.2,k.1.length<=1000) (λx=>x.1) (i,ma xs<|i-1) ⟨E.symm,a8 _,Ev xs _,λk n=>B k<|amB S n⟩ aM ?_;rintro⟨j,b⟩ ⟨d,p,l,f⟩;simp only at d p l f;refine L<|t<|rg 21 J J (λg=>?_)<|λg=>?_
  .have g:0<j:=by have g:(j:Z)>0:=az g;omega
   obtain⟨j,rfl⟩:∃m,j=m+1:=⟨j-1,S⟩;have r:(((j+1:I):Z)).toNat=j+1:=aV _;have v:(((j+1:I):Z)-1).toNat=j:=S;have F:b.getD (j+1) fA∈b:=by rw[getM S];exact j6 _
   have H:b.getD j fA∈b:=by rw[getM S];exact j6 _
   have K:af Tryz.prog 65 ([]++([.a (av MT<|b.getD (((j+1:I):Z)).toNat fA),.a<|av MT<|b.getD (((j+1:I):Z)-1).toNat fA]++[])) (D<|ic (b.getD (j+1) fA).1 (b.getD j fA).1):=by rw[r,v];exact amy _ _ (f _ F)<|f _ H
   rw[uZ]at d;refine Sn J J J J J (.inl ⟨J,J,J⟩) J K (o J<|z J (λh2=>?_)<|λh2=>?_) (hp:=ak)
   .have h2:ic (b.getD (j+1) fA).1 (b.getD j fA).1<0:=az h2;rw[s h2]at d;refine ai (L<|q<|bs<|jx (b.getD j fA) J J J J ?_ ?_ (jx (b.getD (j+1) fA) J J J J ?_ ?_ (o J ?_) (hp:=?_)) (hp:=?_))
    .show js (.a<|y 2<|aE 0<|av MT<|b.getD (((j+1:I):Z)-1).toNat fA)=_;rw[v];exact aa3 _
    .show(((j+1:I):Z)).toNat<b.length;omega
    .show js (.a<|y 2<|aE 0<|av MT<|b.getD (((j+1:I):Z)).toNat fA)=_;rw[r];exact aa3 _
    .show(((j+1:I):Z)-1).toNat<(b.set _ _).length;rw[fP];omega
    .refine aT (rt J (hp:=ak)<|aA (j,wy b j) ⟨d,(S:j<=i),by rw[MS];exact l,λk n=>f k<|(aaW S).mem_iff.1 n⟩ ni<|wk ⟨sR J,sR J,sR J,sR J,sR J,⟨_,J,?_⟩,T⟩ ⟨bE J ?_,T⟩)
     .exact a7.of_eq<|gh (S:((j+1:I):Z)-1=(j:Z))
     .show aH.vec 33 MT ((b.set (((j+1:I):Z)).toNat _).set (((j+1:I):Z)-1).toNat _)=_;rw[r,v];rfl
    .show 0<=((j+1:I):Z)-1/\((j+1:I):Z)-1<((b.set _ _).length:Z);rw[fP];omega
    .simp only[Pr.an,Pr.h,num,eO,true_and,and_true];omega
   .have h2:¬ic (b.getD (j+1) fA).1 (b.getD j fA).1<0:=aL h2;rw[M h2]at d;subst d;exact aN<|aT<|rt J (hp:=ak)<|aA (i+1) ⟨S,S⟩ Ew<|wk ⟨sR J,sR J,sR J,sR J,sE J J,T⟩ ⟨bR J,T⟩
  .have g:j=0:=by have g:¬(j:Z)>0:=aL g;omega
   subst g;have d:b=ma xs i:=d;subst d;exact o J<|z J (λh2=>nl)<|λ_=>aN<|aT<|rt J (hp:=ak)<|aA (i+1) ⟨S,S⟩ Ew<|wk ⟨sR J,sR J,sR J,sR J,sE J J,T⟩ ⟨bR J,T⟩
 .have h:i-1=xs.length-1:=by have h:¬(i:Z)<(xs.length:Z):=aL h;omega
  rw[h];exact aN<|y7 a6 J (a7.refl _) J
def amE(xs:V (V Z×Z))(b:G xs<=12)(d:∀x∈xs,G x.1<=1000) a:mR j 129 [.c (.X 0),D 0,D<|G xs,D a,l7 65] 33 MT xs (.t []) (ma xs<|G xs-1):=by
 refine pB Tryz.func129 J J J J J A ?_;refine e J<|e J ?_;refine q<|aK (α:=Unit) (λ_=>⟨[(0,.c<|.X 0),(1,D 0),(2,D<|G xs),(3,D a),(4,l7 65)],[(0,.vec 33 MT xs)],3,[]⟩) (λ_=>True) (λ_=>0) () T aM ?_;rintro- -;refine q<|e J<|L<|e J<|z J (λh=>?_)<|λh=>?_
 .exact t<|nJ 0 J (amD xs b d) J J<|o J<|bc<|bt<|eH<|gf<|eH<|s7 a6 J (a7.refl _) J
 .have h:¬((G xs:Z)-0<=12):=aL h;omega
def amF(xs:V (V Z×Z))(b:G xs<=12)(d:∀x∈xs,G x.1<=1000):mR j 64 [.c (.X 0),l7 65] 33 MT xs (.t []) (ma xs<|G xs-1):=by
 refine pB Tryz.func64 J J J J J A ?_;refine e J ?_;have a:af j 130 [AV.c (num .u64 (G xs:Z)).1] (D<|pD<|G xs):=by rw[show(AV.c (num .u64 (G xs:Z)).1)=cU (G xs:Z)from bA<|wrap_u64 _ S S];exact Lm _ b
 refine bs<|rc J J a<|nJ 0 J (amE xs b d _) J J<|o J<|y7 a6 J (a7.refl _) J
end Go.El
namespace Go.El
open Go Go.Proofs
def aa4{m}(b:G (aj m)<=2):m<18446744073709551616:=by have a:=uf (n:=m);have c:(4294967296:Z)^2=18446744073709551616:=rfl;have d:(4294967296:Z)^1=4294967296:=rfl;have f:(4294967296:Z)^0=1:=rfl;rcases(S:G (aj m)=0\/G (aj m)=1\/G (aj m)=2)with e|e|e<;>rw[e]at a<;>omega
def aa5 a b(r:Sm a)(E:Sm b):af j 203 [aZ a,aZ b] (aZ ((Int.gcd a b:I):Z)):=by
 refine aD Tryz.func203 ?_;refine e J<|t<|rc J J (xO<|aq a)<|rc J J (Li _ r)<|rc J J (xO<|aq b)<|rc J J (Li _ E)<|o J ?_ (ho:=pN j8);refine L<|q<|aK (α:=I×I) (λx=>⟨[(4,.c<|.P 2000 0),(5,N al<|aj x.1),(6,N al<|aj x.2)],[(2000,.box 44 0 [.B ah,.V<|.slice none 0 0])],2,[]⟩) (λx=>Nat.gcd x.1 x.2=Int.gcd a b/\G (aj x.1)<=1099511627776/\G (aj x.2)<=1099511627776) (λx=>x.2) (aq a,aq b) ⟨J,r,E⟩ (wk (aS J) ⟨bE J J,T⟩) ?_;rintro⟨m,k⟩ ⟨hg,hm,l⟩;simp only at hg hm l;refine L<|e J<|z J (λh=>?_)<|λh=>?_
 .have h:k≠0:=by have h:(G (aj k):Z)>0:=az h;exact mU.1 S
  refine ai<|q<|oq ⟨[(4,.c<|.P 2000 0),(5,N al<|aj m),(6,N al<|aj k)],[(2000,.box 44 0 [.B ah,.V<|.slice none 0 0])],8,[]⟩ ?_<|λf=>t<|rg 25 J J (λg=>o J<|z J (λh2=>?_)<|λh2=>bN<|fH f<|wk (aS J) ⟨bE J J,T⟩)<|λg=>o J<|z J (λh2=>nl)<|λh2=>bN<|fH f<|wk (aS J) ⟨bE J J,T⟩
  .refine aO J J (YK m k h hm) J (rt J<|dy<|aA (k,m%k) ⟨?_,l,?_⟩ (fg _ S)<|wk (aS J) ⟨bE J J,T⟩)
   .show Nat.gcd k (m%k)=_;rw[<-hg,zd m k,Nat.gcd_rec k m,zd]
   .exact cQ (rJ<|Cy<|fg _ S) l
  .have g:G (aj m)<=2:=by have g:(G (aj m):Z)<=2:=az g;omega
   have h2:G (aj k)<=2:=by have h2:(G (aj k):Z)<=2:=az h2;omega
   have C:=aa4 g;have F:=aa4 h2;refine t<|rc J J (Rh m C)<|rc J J (Rh k F)<|o J ?_;refine L<|q<|aK (α:=I×I) (λx=>⟨[(4,.c<|.P 2000 0),(7,cU x.1),(8,cU x.2)],[(2000,.box 44 0 [.B ah,.V<|.slice none 0 0])],10,[]⟩) (λx=>Nat.gcd x.1 x.2=Int.gcd a b/\x.1<18446744073709551616/\x.2<18446744073709551616) (λx=>x.2) (m,k) ⟨hg,C,F⟩ (wk (aS J) ⟨bE J J,T⟩) ?_;rintro⟨u,v⟩ ⟨i,g2,H⟩;simp only at i g2 H;refine L<|e J<|z J (λd=>?_)<|λd=>?_
   .have d:0<v:=by have d:(v:Z)>0:=az d;omega
    have n:=fg u d;refine ai<|q<|rt J (dy<|aA (v,u%v) ⟨?_,H,by show u%v<_;omega⟩ n<|wk ⟨sR J,sR J,sE J ?_,T⟩ ⟨bE J J,T⟩) (hp:=?_)
    .show Nat.gcd v (u%v)=_;rw[<-i,zd u v,Nat.gcd_rec v u,zd]
    .exact bA<|gU u v
    .simp only[Pr.an,Pr.h,num,eO,true_and,and_true];omega
   .have d:v=0:=by have d:¬(v:Z)>0:=aL d;omega
    subst d;rw[GL]at i;subst i;refine aN<|ay<|t<|rc J J (Lg _ g2)<|rc J J (oS ah _)<|o J<|bc ?_;repeat(first|refine bt ?_|refine eH ?_|refine gf ?_)
    exact atR J
 .have h:k=0:=by have h:¬(G (aj k):Z)>0:=aL h;exact Decidable.byContradiction λp=>by have:=mU.2 p;omega
  subst h;rw[GL]at hg;subst hg;exact aN<|ay<|aO J J (oS ah _) J<|bU J
end Go.El
