/- Contract: the reference's integer polynomial of a monic one. Own work; no condition. -/
import Derived.Test.YtceihkmakfdcnaaGreatH13
import Derived.Test.YtceihkmakfdcnaaGreatH12
import Derived.Test.YtceihkmakfdcnaaGreatH8
import Derived.Test.YtceihkmakfdcnaaGreatH6
import Derived.Test.YtceihkmakfdcnaaGreatH11
import Derived.Test.YtceihkmakfdcnaaGreatH3
import Derived.Test.YtceihkmakfdcnaaGreatH4
set_option linter.all false
set_option maxHeartbeats 16000000
set_option maxRecDepth 100000
open Bool renaming true->ae,false->ah
open Go.El renaming rr->I,cS->N,ar5->c,jt->S,jg->M,re->j,cI->y,rb->R,vK->r
open Go.Proofs.Tryz renaming prog->z
open Int renaming natAbs->aA,toNat->af,ofNat->T3
open List renaming getD->E,length->Z,take->h,mem_range'_1->apx,drop->az
open Nat renaming gcd->mY,ble->dT,beq->gG
open Option renaming some->ad
open _root_ renaming Int->G,Rat->D,Nat->Y,List->V,Option->ar
namespace Go.El
open Go Go.Proofs Go.RowKit Rx
def apq{a}{e d:G}(g:(e:D)*a=(d:D)):(a.den:G)∣e:=by
 have i:e*a.num=d*(a.den:G):=by
  have f:(e:D)*(((a.den:Y):D)*a)=(d:D)*((a.den:Y):D):=by rw[<-g];grind
  rw[LM]at f;have k:((e*a.num:G):D)=((d*(a.den:G):G):D):=by rw[fJ,fJ];exact f
  exact wU.1 k
 have l:a.den∣aA e*aA a.num:=⟨aA d,by rw[<-qv,i,qv,ob,gO]⟩;have m:=Nat.Coprime.dvd_of_dvd_mul_right (Nat.Coprime.symm a.reduced) l;exact RC.2 m
def oD(a:V D)(k:Y):G:=(E a k 0).num*((dC a:Y):G)/((E a k 0).den:G)
def oE(a:V D):V G:=(List.range<|Z a).map<|oD a
def qZ(a:V D):Y->Y
 |0=>0
 |i+1=>mY (qZ a i)<|aA<|oD a i
def TS(a:V D):∀i d,d<i->qZ a i∣aA (oD a d)
 |0,d,f=>by omega
 |i+1,d,f=>by
  rw[qZ];by_cases e:d=i
  .rw[e];exact Ql _ _
  .exact DC (Nat.gcd_dvd_left _ _)<|TS a i d O
section
variable{a:V D}
def adJ{k}(d:k<Z a):((oD a k:G):D)=((dC a:Y):D)*E a k 0:=by have e:(E a k 0).den∣dC a:=Ec a _ k d;have:=Nb (E a k 0) (D:=((dC a:Y):G))<|wz.2 e;exact this
def apr{k}(d:k<Z a):(E a k 0).num*((dC a:Y):G)=((E a k 0).den:G)*oD a k:=by
 have f:(E a k 0).den∣dC a:=Ec a _ k d;let ⟨e,he⟩:=f;unfold oD;have g:((E a k 0).den:G)≠0:=by have:=(E a k 0).den_pos;omega
 rw[he,eY,(fq:(E a k 0).num*(((E a k 0).den:G)*(e:G))=((E a k 0).den:G)*((E a k 0).num*(e:G))),TJ _ g]
def Np(d:iL a):oD a (Z a-1)=((dC a:Y):G):=by unfold oD;rw[d.one];show(1:G)*_/1=_;rw[jR,sY]
def aps(n:iL a):qZ a (Z a)=1:=by
 have U:=n.l2;have o:0<dC a:=Ed a _;obtain⟨e,i⟩:qZ a (Z a)∣dC a:=by have:=TS a (Z a) (Z a-1) O;rwa[Np n,ob]at this
 generalize v:qZ a (Z a)=d at*;have B:0<d:=by
  rcases oW d with f|f
  .rw[f,rB]at i;omega
  .exact f
 have g:∀k,(E a k 0).den∣e:=λk=>by
  by_cases p:k<Z a
  .have q:=TS a (Z a) k p;rw[v]at q;let ⟨z,C⟩:=RC.2 q;have s:=adJ p;rw[i,C]at s;have F:((e:G):D)*E a k 0=(z:D):=by
    have l:((d:Y):D)≠0:=wN O;have H:((d:Y):D)*(z:D)=((d:Y):D)*(((e:G):D)*E a k 0):=by
     have K:(((d:G)*z:G):D)=((d:Y):D)*(z:D):=fJ _ _;have L:((d*e:Y):D)=((d:Y):D)*((e:G):D):=by rw[<-qK,eY,fJ];rfl
     rw[<-K,s,L,nE]
    have t:=a6 (λx=>((d:Y):D)⁻¹ *x) H;simp only[<-nE,mA _ l,rQ]at t;exact t.symm
   exact wz.1<|apq F
  .rw[iJ a O];exact Nat.one_dvd _
 have u:dC a∣e:=Th a g _;rw[i]at u;let ⟨y,P⟩:=u;have m:0<e:=by
  rcases oW e with f|f
  .rw[f,LL]at i;omega
  .exact f
 have:1*e=d*y*e:=by
  rw[iT];conv=>lhs;rw[P]
  ac_rfl
 have Q:=Nat.eq_of_mul_eq_mul_right m this;exact Nat.dvd_one.1 ⟨y,Q⟩
def ze a:Z (oE a)=Z a:=by simp[oE]
def Ig a{k}(d:k<Z a):E (oE a) k 0=oD a k:=by unfold oE;rw[aM,iV,kK d];rfl
def apt(f:iL a):Nn (oE a)=dD a:=by
 have l:=f.l2;unfold Nn dD;rw[ze];refine Qx λk d=>?_
 have d:=oI.1 d;unfold qY;rw[ze];split
 .rename_i e;rw[e,f.one,ma,n7];rfl
 .rename_i e;rw[Ig a d,Ig a O,Np f,(O:Z a-1-k=(Z a-2-k)+1),fb];have g:((E a k 0).den:G)≠0:=by have:=(E a k 0).den_pos;omega
  have i:=apr (a:=a) d;rw[show(E a k 0).num*(((dC a:Y):G)^(Z a-2-k)*((dC a:Y):G))=((E a k 0).den:G)*(oD a k*((dC a:Y):G)^(Z a-2-k))by rw[<-iF ((E a k 0).den:G),<-i];ac_rfl,TJ _ g]
def apu{k}(d:k<Z a):(E a k 0*(((dC a:Y):G):D)).num=oD a k:=by have e:=adJ d;rw[Dm,show((((dC a:Y):G):G):D)=((dC a:Y):D)from J,<-e];rfl
def adK(d:∀k,k<Z a->aG 201 (oD a k)):∀i,i<=Z a->aG 201 ((qZ a i:Y):G)
 |0,_=>aG.zero _
 |i+1,l=>by
  have f:=adK d i O;have g:=d i O;unfold aG at*;rw[ob]at*;rw[qZ];rcases oW (qZ a i)with e|e
  .rw[e,Nat.gcd_zero_left];exact g
  .exact uA (Nat.gcd_le_left _ e) f
def adL(e:iL a)(d:∀i,QS 20 (E a i 0)){k:Y}(_:k<Z a):aG 201 (oD a k):=by have f:=(d k).n.mul ((Tk a d<|Z a).le<|show 20*Z a+1<=181 by have:=e.l9;omega);have g:=TN ((E a k 0).num*((hO a (Z a):Y):G)) ((E a k 0).den:G);have l:oD a k=(E a k 0).num*((hO a (Z a):Y):G)/((E a k 0).den:G):=rfl;unfold aG at*;rw[l];exact uA g f
def apv(v:iL a)(u:∀i,QS 20 (E a i 0)):r z 169 [N .q a] (N .z<|oE a):=by
 have l2:=v.l2;have l9:=v.l9;have m:=λi(l:i<=9)=>(Tk a u i).le (O:20*i+1<=181)
 have x:=λi(l:i<=9)=>(m i l).sm T
 have B:QS 181 (((dC a:Y):G):D):=⟨m _ l9,(aG.one (a:=1) T).le T⟩;have n:=λk C=>adL v u (k:=k) C
 have F:=λk C=>(n k C).sm (by decide:201<=1099511627776)
 have b:=aps v;have w:=λi l=>(adK n i l).sm (by decide:201<=1099511627776)
 have S:=ze a;have o:=λk(C:k<Z a)=>Ig a C
 have H:=Np v;have DG:0<dC a:=Ed a _;have K:=λk=>(u k).d.sm (by decide:20<=1099511627776)
 have p:∀i,((hO a i:Y):G)*(((E a i 0).den:G)/((mY (hO a i) (E a i 0).den:Y):G))=((hO a (i+1):Y):G):=λi=>by rw[hO,eY,wj]
 have V:∀i,i<=9->Sm (((E a i 0).den:G)/((mY (hO a i) (E a i 0).den:Y):G)):=λi l=>by have f:=(u i).d;have h2:=TN ((E a i 0).den:G) ((mY (hO a i) (E a i 0).den:Y):G);exact(show aG 20 _ by unfold aG at*;omega:aG 20 (((E a i 0).den:G)/((mY (hO a i) (E a i 0).den:Y):G))).sm T
 have TM:=λi=>QG (k:=181) (E a i 0) (((dC a:Y):G):D) ((u i).le T) B T
 clear m n B;refine aJ Tryz.func169 ?_;refine I J<|bw J J (iI 1 T T) J<|M<|I J ?_;refine ay<|bf (α:=Y) (λi=>⟨[(0,N .q a),(3,.c<|.P 1001000 0),(4,y i)],[(1001000,.box 42 0<|av .z ((hO a i:Y):G))],3,[]⟩) (λi=>i<=Z a) (λi=>Z a-i) 0 (a8 _) (wk (bJ J) ⟨bE J J,A⟩) ?_;intro i l;refine M<|I J<|c J (λf=>?_)<|λf=>?_
 .have f:i<Z a:=by have f:(i:G)<(Z a:G):=aT f;omega
  have ei:af ((i:G))=i:=b6 i;have hg:=Kq ((hO a i:Y):G) ((E a i 0).den:G) (x i O)<|K i;have hgp:0<mY (hO a i) (E a i 0).den:=Nat.gcd_pos_of_pos_right _ (E a i 0).den_pos;have asM:mY (hO a i) (E a i 0).den<=(E a i 0).den:=Nat.gcd_le_right _ (E a i 0).den_pos;have s:=C1 ((E a i 0).den:G) ((mY (hO a i) (E a i 0).den:Y):G) O (K i)<|(show aG 20 ((mY (hO a i) (E a i 0).den:Y):G)by have:=(u i).d;unfold aG at*;omega).sm T;have Q:=kd ((hO a i:Y):G) (((E a i 0).den:G)/((mY (hO a i) (E a i 0).den:Y):G)) (x i O)<|V i O;rw[p]at Q;refine aD<|M<|ay ?_;refine R<|rc J J hg (j J<|R<|rc J J s (j J ?_) (hp:=aF)) (hp:=aF);exact cA<|rc J J Q<|j J<|bH<|rt J (hp:=aF)<|aS (i+1) f nY<|wk (bJ J) ⟨bE J J,A⟩
 have f:i=Z a:=by have f:¬(i:G)<(Z a:G):=a4 f;omega
 subst f;have di:hO a (Z a)=dC a:=rfl;refine bh<|aI ?_;rw[di];refine R<|fM .z [] J J (j J<|bw J J (iI 0 T T) J<|M<|I J ?_);generalize hL:oE a=L at*;refine ay<|bf (α:=Y) (λi=>⟨[(0,N .q a),(3,.c<|.P 1001000 0),(9,.c<|.X 4000000),(10,.c<|.P 5001000 0),(11,y i)],[(1001000,.box 42 0<|av .z ((dC a:Y):G)),(4000000,.vec 42 .z<|h i L),(5001000,.box 42 0<|av .z ((qZ a i:Y):G))],8,[]⟩) (λi=>i<=Z a) (λi=>Z a-i) 0 (a8 _) (wk (bJ J) ⟨bR J,bR J,bE J J,A⟩) ?_;intro i l;have hl:(h i L).length=i:=bV;refine M<|I J<|c J (λf=>?_)<|λf=>?_
 .have f:i<Z a:=by have f:(i:G)<(Z a:G):=aT f;omega
  have hm:=TM i;have g:=apu (a:=a) f;have U:=Kq ((qZ a i:Y):G) (oD a i) (w i O)<|F i f;refine aD<|M<|ay ?_;refine R<|rc J J (iI 1 T T) (rc J J hm<|j J ?_) (hp:=aF);rw[<-g]at U;refine R<|rl .z [(E a i 0*(((dC a:Y):G):D)).num] J J (ra J J J J J J J J J ?_ ?_<|j J ?_)
  .exact adz (h i L) O
  .exact adA (h i L) O
  refine cA<|rc J J U<|j J<|bH<|rt J<|aS (i+1) f nY<|Wk.trans (wk (st':=⟨[(0,N .q a),(3,.c<|.P 1001000 0),(9,.c<|.X 10004000),(10,.c<|.P 5001000 0),(11,y ((i+1:Y):G))],[(1001000,.box 42 0<|av .z ((dC a:Y):G)),(10004000,.vec 42 .z<|h (i+1) L),(5001000,.box 42 0<|av .z ((qZ a (i+1):Y):G))],16,[]⟩) (bJ J) ⟨bR J,bE J ?_,bE J ?_,A⟩)<|Wk.trans (gw 4000000 10004000 J J J) aU
  .refine a6 (aE.vec 42 .z) ?_;rw[qy L i O,o i f,g]
  .rw[qZ,<-g];rfl
 have f:i=Z a:=by have f:¬(i:G)<(Z a:G):=a4 f;omega
 subst f;rw[iO O,b];refine bh<|aI<|M ?_;have t:E L (af<|(Z L:G)-1) 0=((dC a:Y):G):=by rw[S,(O:af ((Z a:G)-1)=Z a-1),o _ O,H]
 have hsg:=Ah<|E L (af<|(Z L:G)-1) 0;have W:¬eS (E L (af<|(Z L:G)-1) 0)<0:=by rw[t,K7];omega
 refine R<|rg 73 J J (λ_=>?_)<|λf=>?_;rotate_left
 .exfalso;have f:¬(Z a:G)>0:=a4 f;omega
 refine fX J J J J J hsg (j J<|c J (λf=>?_)<|λ_=>aD ?_) (hp:=aF)
 .exfalso;exact W<|aT f
 refine M<|I J<|ay<|bf (α:=Y) (λi=>⟨[(9,.c<|.X 4000000),(10,.c<|.P 5001000 0),(13,y i)],[(4000000,.vec 42 .z L),(5001000,.box 42 0<|av .z ((1:Y):G))],16,[]⟩) (λi=>i<=Z L) (λi=>Z L-i) 0 (a8 _) aU ?_;intro i l;refine M<|I J<|c J (λf=>?_)<|λf=>?_
 .have f:i<Z L:=by have f:(i:G)<(Z L:G):=aT f;omega
  have ei:af ((i:G))=i:=b6 i;have s:=C1 (E L (af<|(i:G)) 0) ((1:Y):G) T (by rw[ei,o i O];exact F i O)<|(aG.one (a:=((1:Y):G)) T).sm T;refine aD<|M<|ay ?_;refine R<|rc J J s (j J ?_) (hp:=aF);refine cA<|x5 (T:= .z) (E L (af<|(i:G)) 0/((1:Y):G)) J J J J J ?_ (j J<|bH<|rt J (hp:=aF)<|aS (i+1) f (O:Z L-(i+1)<Z L-i)<|wk (bJ J) ⟨bE J ?_,bR J,A⟩) (hp:=aF)
  .show af ((i:G))<_;omega
  .refine a6 (aE.vec 42 .z)<|LZ (by rw[ru]) λl7 hj=>?_;rw[sX _ _ _ _ O,ei];split
   .rename_i e;rw[e];exact sY _
   .rfl
 .have f:i=Z L:=by have f:¬(i:G)<(Z L:G):=a4 f;omega
  subst f;exact bh<|aI<|c8 4000000 J J J<|I J<|cJ J
end
end Go.El
namespace Go.El
open Go Go.Proofs Go.RowKit Fx
def tdB(n:Y):Bool:=[2,3,5,7,11,13,17,19,23,29,31,37,41,43,47].all λk=>dT n k|| !(gG (n%k) 0)
def Ei:V Y:=((List.range' 3 2300).filter tdB)
def Nq{p}(a:p∈Ei):3<=p/\p<2304:=by have d:=(nO.1 a).1;rw[apx]at d;omega
def adN{p}(f:p∈Ei):dy p:=by
 let ⟨B,h2⟩:=Nq f;have n:tdB p=ae:=(nO.1 f).2;have g:∀k∈[2,3,5,7,11,13,17,19,23,29,31,37,41,43,47],p<=k\/p%k≠0:=λk g=>by
  have:=l6.1 n k g;rcases xK _ _▸this with e|e
  .exact .inl<|c9 e
  .right;intro o;rw[o]at e;exact absurd e T
 refine⟨O,λd s C t=>?_⟩;have u:d<48:=eX λf=>by have:48*48<=d*d:=mn O O;omega
 have v:d<p:=by have:2*d<=d*d:=ef d s;omega
 obtain⟨q,i,a⟩:∃q∈[2,3,5,7,11,13,17,19,23,29,31,37,41,43,47],q∣d:=by have l:(List.range' 2 46).all (λd=>[2,3,5,7,11,13,17,19,23,29,31,37,41,43,47].any λq=>gG (d%q) 0)=ae:=dN;have x:=l6.1 l d (by rw[apx];omega);let ⟨q,i,m⟩:=List.any_eq_true.1 x;exact⟨q,i,Hj<|kI m⟩
 have m:=DC a<|Hj t;have F:=uE O a;rcases g q i with e|e
 .omega
 .exact e<|Nat.mod_eq_zero_of_dvd m
def apy:Ei.Nodup:=(List.nodup_range' (s:=3) (n:=2300) (step:=1)).filter _
def apz:dT (wV+1) (pC Ei)=ae:=dN
def apA:wV<pC Ei:=Zp apz
def adO{p}(a:p∈Ei):bp p:=⟨adN a,by have:=(Nq a).2;omega⟩
def iL.adP{a}(e:iL a):∃p,dy p/\3<=p/\p<2304/\D9 p (dD a)=ae:=by let ⟨p,d,hc⟩:=e.ace apy (λ_ d=>adO d) apA;exact⟨p,adN d,(Nq d).1,(Nq d).2,(ab1 (adO d) _).2 hc⟩
def adQ{p:Y}:∀{L:V (V G×G)},(∀x∈L,bl (fx x.1:Fx p)/\1<=x.2)->pD (iu p L)->iu p L=fv (L.map (·.1))
 |[],_,_=>rfl
 |x::l,a,d=>by
  let ⟨f,h2⟩:=a x ax;have g:=adQ (L:=l) (λy hy=>a y tq)<|d.of_dvd ⟨pk (fx x.1)<|af x.2,by rw[iu,mul_comm]⟩;rw[iu,gR,fv,g];by_cases e:af x.2=1
  .rw[e,qE]
  .exfalso;obtain⟨n,i⟩:∃n,af x.2=n+1+1:=⟨af x.2-2,O⟩;refine d _ f ⟨pk (fx x.1) n*iu p l,?_⟩;rw[iu,i];show pk (fx x.1) n*fx x.1*fx x.1*iu p l=_;ac_rfl
section
variable{p:Y}{a:V G}
def ow.nk(d:ow p a){L}(k:Bm p (fx a:Fx p) L):vo p a (L.map (·.1))/\∀g∈L.map (·.1),bl (fx g:Fx p):=by
 have i:∀g∈L.map (·.1),Mon p g/\2<=Z g/\bl (fx g:Fx p):=λg e=>by obtain⟨x,m,rfl⟩:=je.1 e;let ⟨q,s,t,_⟩:=k.parts x m;exact⟨q,s,t⟩
 have n:(fx a:Fx p)=fv (L.map (·.1)):=by rw[<-k.prod];exact adQ (λx m=>⟨(k.parts x m).2.2.1,(k.parts x m).2.2.2⟩) (by rw[k.prod];exact d.kS)
 have u:Z a=1+dn (L.map (·.1)):=by
  let ⟨t1,t2⟩:=yM d.p1 A3 (l:=L.map (·.1)) λf o=>⟨(i f o).1.ne,(i f o).1.one⟩
  rw[<-tA d.H d.am,n,<-yN (L.map (·.1)) p (Hw _),tA d.H t1,t2];rfl
 refine⟨⟨d.am,λg e=>⟨(i g e).1,(i g e).2.1⟩,by rw[abX,n],abY d.H (λg e=>(i g e).2.2) (by rw[<-n];exact d.kS),u,?_⟩,λg e=>(i g e).2.2⟩;have:=d.l9;omega
def Eg.mem{k}{l X}(e:Eg p k a l X){f}(q:f∈X):∃g∈l,aH f/\Z f=Z g/\(fx f:Fx p)=fx g/\∀m,dt (E f m 0) ((p:G)^k)=E f m 0:=by
 obtain⟨i,n,rfl⟩:=Jr q;have d:i<Z l:=by rw[<-e.len];exact n
 have o:=e.ok i d;rw[aM,aM,cK n,cK d]at o;exact⟨l[i],si d,o⟩
def Eg.Nr{k}{l X}(f:Eg p k a l X):X.map (fx (p:=p))=l.map fx/\dn X=dn l:=by
 have g:∀(X l:V (V G)),X.length=Z l->(∀i,i<Z l->Z (X.getD i [])=Z (l.getD i [])/\(fx (X.getD i []):Fx p)=fx (l.getD i []))->X.map (fx (p:=p))=l.map fx/\dn X=dn l:=by
  intro X;induction X with
  |nil=>
   intro l d _
   rw[fE d.symm];exact⟨J,J⟩
  |cons x X n=>
   intro l d h
   cases l with
   |nil=>cases d
   |cons y l=>
    let ⟨i1,i2⟩:=n l (Nat.succ.inj d) λi e=>h (i+1)<|Nat.succ_lt_succ e
    have m:Z x=Z y/\(fx x:Fx p)=fx y:=h 0<|Nat.succ_pos _
    exact⟨by rw[gR,gR,i1,m.2],by rw[dn,dn,i2,m.1]⟩
 exact g X l f.len λi e=>⟨(f.ok i e).2.1,(f.ok i e).2.2.1⟩
def ow.cbX(d:ow p a){L}(o:Bm p (fx a:Fx p) L){k}(q:1<=k)(x:2*fY a<p^k){X}(l:Eg p k a (L.map (·.1)) X):gD p ((p:G)^k) a X:=by
 let ⟨A,s⟩:=d.nk o;refine⟨d.H,⟨k,q,J⟩,d.am,λf n=>?_,λf n=>?_,?_,l.pr,d.kS,?_,λg t u i=>?_⟩
 .let ⟨_,_,m,_⟩:=l.mem n;exact m
 .let ⟨g,hg,_,_,v,_⟩:=l.mem n;rw[v];exact s g hg
 .have m:((L.map (·.1)).map<|fx (p:=p)).Pairwise Co:=DE.2 A.co;rw[<-l.Nr.1]at m;exact DE.1 m
 .rw[l.Nr.2];exact A.fl
 .have:=ab0 d.am t u i;have e:((p^k:Y):G)=(p:G)^k:=s7 p k;rw[<-e];omega
end
end Go.El
namespace Go.El
open Go Go.Proofs Go.RowKit Rx
def Ih{a d}:m7 a d<=0↔a<=d:=by
 unfold m7;by_cases e:a<d
 .rw[ao e];exact⟨λ_=>Rat.le_of_lt e,λ_=>O⟩
 .rw[w e];by_cases h2:d<a
  .rw[ao h2];exact⟨λh=>O,λh=>absurd h2<|Rat.not_lt.2 h⟩
  .rw[w h2];exact⟨λ_=>Rat.not_lt.1 h2,λ_=>gK _⟩
def TU{a d}:m7 a d=0↔a=d:=by
 constructor
 .intro h;refine Rat.le_antisymm (Ih.1 O)<|Ih.1 ?_;rw[Tn];omega
 .rintro rfl;have:=Tn a a;omega
def adS(a d f:V D):∀i,pN a d i<=0->pN d f i<=0->pN a f i<=0
 |0,_,_=>gK _
 |i+1,m,h2=>by
  rw[pN]at*;have q:=adS a d f i;have q1:=@Ih (E a i 0)<|E d i 0;have s:=@Ih (E d i 0)<|E f i 0;have t:=@Ih (E a i 0)<|E f i 0;have p:=@TU (E a i 0)<|E d i 0;have u:=@TU (E d i 0)<|E f i 0;have v:=@TU (E a i 0)<|E f i 0;generalize E a i 0=x at*;generalize E d i 0=y at*;generalize E f i 0=z at*;by_cases n:m7 x y=0
  .rw[w (λe=>e n)]at m;have:=p.1 n;subst this;by_cases g:m7 x z=0
   .rw[w (λe=>e g)]at*;exact q m h2
   .rw[ao g]at*;exact h2
  .rw[ao n]at m;have k:=q1.1 m;have l:y<=z:=by
    by_cases g:m7 y z=0
    .rw[u.1 g];exact Rat.le_refl
    .rw[ao g]at h2;exact s.1 h2
   have o:=Rat.le_trans k l;have B:m7 x z≠0:=λe=>by have:=v.1 e;subst this;exact n<|p.2<|Rat.le_antisymm k l
   rw[ao B];exact t.2 o
def apC{a d f}(i:iM a d<=0)(g:iM d f<=0):iM a f<=0:=by
 have n:∀x y:G,ox x y<=0->x<=y:=λx y h=>by unfold ox at h;split at h<;>(try split at h)<;>omega
 have k:∀x y:G,x<y->ox x y<=0:=λx y h=>by unfold ox;rw[ao h];omega
 have l:∀{a d:V D},iM a d<=0->Z a<=Z d:=λ{a d} h=>by
  by_cases e:Z a=Z d
  .omega
  .rw[iM,ao e]at h;have:=n _ _ h;omega
 have p:=l i;have q:=l g;by_cases e:Z a=Z f
 .have m:Z a=Z d:=by omega
  have o:Z d=Z f:=O;rw[iM,w<|λh=>h m]at i;rw[iM,w<|λh=>h o]at g;rw[iM,w<|λh=>h e];rw[<-m]at g;exact adS a d f _ i g
 .rw[iM,ao e];exact k _ _ O
abbrev tO(x a:V D×G):Prop:=Ee x a<=0
def apD{x a d}(e:tO x a)(f:tO a d):tO x d:=apC e f
def apE{l}(d:l.Pairwise tO):gAd xh Ee l (Z l-1):=λt f=>by
 have g:∀k(a:k<Z l),E l k xh=l[k]:=λk a=>by rw[aM,cK a];rfl
 have:=List.pairwise_iff_getElem.1 d t (t+1) O O O;rw[g t O,g (t+1) O];have e:=acC l[t+1] l[t];omega
section
variable{α:Type}(d:α)(lt:α->Bool)(x:α)(l:V α)
def adT:∀i,i<=Z l->((iD d lt x l i).1=ah/\(iD d lt x l i).2=h i l/\∀a,a<i->lt (E l a d)=ah)\/((iD d lt x l i).1=ae/\∃k,k<i/\(∀a,a<k->lt (E l a d)=ah)/\lt (E l k d)=ae/\(iD d lt x l i).2=h k l++x::(h i l).drop k)
 |0,_=> .inl ⟨J,J,λa v=>O⟩
 |i+1,o=>by
  have f:h (i+1) l=h i l++[E l i d]:=by rw[q6,aM,cK o];rfl
  have p:(h i l).length=i:=Gd;rw[TB];rcases adT i O with⟨m,q,n⟩|⟨m,k,B,s,t,u⟩
  .rw[m,q];cases g:lt (E l i d)with
   |false=>
    left
    refine⟨J,f.symm,λa C=>?_⟩
    by_cases e:a=i
    .rw[e];exact g
    .exact n a O
   |true=>
    right
    refine⟨J,i,O,n,g,?_⟩
    show h i l++[x]++[E l i d]=_
    rw[f,zE O,sB O,lD];rfl
  .rw[m];right;refine⟨J,k,O,s,t,?_⟩;show(iD d lt x l i).2++[E l i d]=_;rw[u,f,zE O,lD];rfl
def apF:∃k,k<=Z l/\(∀e,e<k->lt (E l e d)=ah)/\(k<Z l->lt (E l k d)=ae)/\qW d lt x l=h k l++x::az k l:=by
 unfold qW;rcases adT d lt x l (Z l) (aW _)with⟨a,f,g⟩|⟨a,k,o,i,m,n⟩
 .refine⟨Z l,aW _,g,λp=>O,?_⟩;rw[a,f,w T,List.drop_length]
 .refine⟨k,O,i,λ_=>m,?_⟩;rw[a,ao J,n,fR]
end
def Ii(x:V D×G)(l:V (V D×G)):V (V D×G):=qW ([],0) (λy=>decide<|iM x.1 y.1<0) x l
def apG x l:(Ii x l).Perm (x::l):=ac9 _ _ _ _
def apH{x}{l}(q:l.Pairwise tO):(Ii x l).Pairwise tO:=by
 let ⟨k,F,t,u,v⟩:=apF ([],0) (λy:V D×G=>decide<|iM x.1 y.1<0) x l;rw[Ii,v];have B:(h k l++az k l).Pairwise tO:=by rw[q8];exact q
 let ⟨p1,f,C⟩:=w5.1 B;have g:∀j(d:j<Z l),E l j ([],0)=l[j]:=λj d=>by rw[aM,cK d];rfl
 have i:∀y∈h k l,tO y x:=λy a=>by
  obtain⟨j,d,rfl⟩:=Jr a;have m:j<k:=by rw[fQ]at d;omega
  have e:=a4<|t j m;rw[g j O]at e;rw[pX];show Ee _ _<=0;rw[acC];show-(iM x.1 _)<=0;omega
 have n:∀y∈az k l,tO x y:=λy a=>by
  have o:k<Z l:=eX λq=>by rw[sB O]at a;cases a
  have e:=aT<|u o;rw[g k o]at e;have s:tO x l[k]:=Int.le_of_lt e;rw[qk o]at a f;rcases bX.1 a with rfl|a
  .exact s
  .exact apD s<|(jr.1 f).1 y a
 refine w5.2 ⟨p1,jr.2 ⟨n,f⟩,λy a z p=>?_⟩;rcases bX.1 p with rfl|p
 .exact i y a
 .exact C y a z p
def pP(l:V (V D×G)):V (V D×G):=l.foldl (λo x=>Ii x o) []
def adU l x:pP (l++[x])=Ii x (pP l):=by rw[pP,List.foldl_append];rfl
def TV:∀(n:Y)(l:V (V D×G)),Z l=n->(pP l).Perm l/\(pP l).Pairwise tO
 |0,l,d=>by rw[fE d];exact⟨List.Perm.refl _,List.Pairwise.nil⟩
 |n+1,l,d=>by
  have a:l≠[]:=λe=>by rw[e]at d;cases d
  have e:l=l.dropLast++[l.getLast a]:=(Tv a).symm;let ⟨i1,i2⟩:=TV n l.dropLast (by rw[List.length_dropLast];omega);rw[e,adU];exact⟨(apG _ _).trans<|((List.Perm.cons _ i1)).trans (List.perm_append_singleton _ _).symm,apH i2⟩
def apI{a}(x:iL a)(hq:∀i,QS 20 (E a i 0)):∃n:V (V G),(∀aV∈n,aH aV/\Rx.bl (Rx.zx aV))/\Rx.oq n=Rx.zx (dD a)/\r z 141 [N .q a] (N (.sl .q)<|n.map<|jO<|dC a):=by
 have l2:=x.l2;have l9:=x.l9;let ⟨p,⟨hp,p3,U⟩,Q⟩:=Tu (P:=λp=>dy p/\3<=p/\D9 p (dD a)=ae) (by let ⟨p,m,l,_,h4⟩:=x.adP;exact⟨p,m,l,h4⟩);have hp9:p<2304:=by let ⟨q,m,l,B,h4⟩:=x.adP;exact uA (eX λhc=>Q q dX ⟨m,l,h4⟩) B
 have t:=x.mf;have H:bp p:=⟨hp,dX⟩;have Ij:ow p (dD a):=⟨H,t.am,t.l2,t.l9,(ab1 H _).1 U⟩;have pq:Z (dD a)=Z a:=y8 a;have F:aK (md p<|dD a)=md p (dD a):=Ij.trim;let ⟨f1,f2,f3⟩:=Ij.f;have fe:md p (dD a)≠[]:=f1.ne;let ⟨L,hL,apJ⟩:=aom H dX (a:=md p<|dD a) dX (λi=>(Aw H.pos (dD a) i).1) (by rw[K6,F];exact fe) (λd hd=>by rw[K6,F,f2,pq]at hd;have m:d<=4:=dX;have l:p^d<=2304^4:=bQ (AQ dX d)<|fh T m;omega);rw[K6,F]at hL;have Fq:(Fx.fx (kL p<|md p<|dD a):Fx p)=Fx.fx (dD a):=by have e:=(Fx.LY H f1.c fe).2.2.2.2;rw[f1.one,Fx.oh,Fx.one_mul,f3]at e;exact e.symm
 rw[Fq]at hL;let ⟨pO,hi⟩:=Ij.nk hL;have hL8:Z L<=8:=by have:=(S9 λf hf=>(pO.ok f hf).2).1;have:=pO.fl;rw[cR]at*;omega
 let ⟨k1,k2,k3⟩:=ab2 (p:=p) dX<|2*fY (dD a);let ⟨m1,m2⟩:=t.mBp (p:=p) dX dX;have hlX:=aoL H pO (u:=9) (w:=9) k1 dX (λi=>(t.aB i).le dX) m1 dX dX dX;have O:=adt H k1 _ _ pO;have C:=Ij.cbX hL k1 k2 O;let ⟨G1,G2⟩:=gD.all (p:=p) 8 TW (λe=>by have m:=pO.fl;rw[<-O.Nr.2,e]at m;have l:Z (dD a)=1:=m;omega) C;have Pl:=adD (w:=9) T T m1 8 (dD a) _ T TW (λe=>by
  have m:=pO.fl;rw[<-O.Nr.2,e]at m;have l:Z (dD a)=1:=m;omega) TW dX C (λf hf i=>by
  let ⟨_,_,_,_,_,f4⟩:=O.mem hf;rw[<-f4 i];exact QI (mI H.pos) m1)
 refine⟨_,G1,G2,?_⟩;have y7:=TQ ((p:G)^mF p (2*fY (dD a))) 8 (dD a)<|qX p (mF p<|2*fY (dD a)) (dD a)<|L.map (·.1);generalize qN ((p:G)^mF p (2*fY (dD a))) 8 (dD a) (qX p (mF p<|2*fY (dD a)) (dD a)<|L.map (·.1))=n at*;have hGB:∀g∈n,Z g<=12/\∀i,aG 210 (E g i 0):=λg hgm=>by
  let ⟨g1,g2⟩:=G1 g hgm;have hd:Rx.zx g∣Rx.zx (dD a):=by rw[<-G2];exact ack hgm
  have hb:=λi=>ab0 t.am g1 hd i
  refine⟨?_,λi=>?_⟩
  .have m:=Rx.iK hd (by rw[<-G2];exact(acm λg U=>(G1 g U).2).1);rw[Rx.ko g1.can,Rx.ko t.am.can]at m;omega
  .have m:=t.bB;have l:=hb i;have:aG 8 (E g i 0):=by unfold aG at*;omega
   exact this.le dX
 generalize hX:qX p (mF p<|2*fY (dD a)) (dD a) (L.map (·.1))=X at*;have hfB:∀i,aG 201 (E (oE a) i 0):=λi=>by
  by_cases hi:i<Z a
  .rw[Ig a hi];exact adL x hq hi
  .rw[eN _ (by rw[ze];omega)];exact aG.zero _
 have AO:=aoT (oE a) (by rw[ze];omega) (by rw[ze];omega)<|λi=>(hfB i).le dX;rw[apt x]at AO;have EA:∀g∈n,r z 180 [N .z g,.a<|av .z<|E (oE a) (af<|(Z (oE a):G)-1) 0] (N .q<|jO (dC a) g):=λg U=>by
  have e:E (oE a) (af<|(Z (oE a):G)-1) 0=((dC a:Y):G):=by rw[ze,(dX:af ((Z a:G)-1)=Z a-1),Ig a dX,Np x]
  have m:=hfB<|af<|(Z (oE a):G)-1;rw[e]at m⊢;exact aoV g (dC a) (Ed a _) (hGB g U).1 (hGB g U).2<|m.le dX
 have D2:=aoS (dD a) 6 T dX t.aB;have hBS:Sm ((fY (dD a):Y):G):=by have m:=t.bB;exact(show aG 8 _ by unfold aG at*;omega:aG 8 ((fY (dD a):Y):G)).sm dX
 have had:=we ((fY (dD a):Y):G) ((fY (dD a):Y):G) hBS hBS;have hil:=apv x hq;have jb:=ze a;generalize oE a=f0 at*;have v:=X0<|dD a;have hsS:∀i,Sm (E (dD a) i 0):=λi=>(t.aB i).sm T
 refine aJ Tryz.func141 ?_;refine I J<|bw J J hil J<|R<|rc J J AO<|j J<|I J ?_;generalize dD a=S at*;refine M<|ay<|bf (α:=Y) (λq=>⟨[(3,N .z f0),(4,N .z S),(5,cU q)],[],4,[]⟩) (λq=>dy q/\3<=q/\q<=p) (λq=>p-q) 3 ⟨⟨T,λd m l=>absurd (mn m m) dX⟩,aW _,p3⟩ (wk ⟨sR J,sR J,sE J J,A⟩ A) ?_;rintro q ⟨q1,q2,q3⟩;have W:(0:G)<(q:G):=dX;have v:=X0 S q dX dX dX hsS;have HQ:bs q (aK<|md q S):=kg W<|Aw W S;have A6:bs q (aK<|jm q<|aK<|md q S):=kg W<|H3 dX _;have Rn:Z (aK<|md q S)<=9:=by have:=oc<|md q S;rw[wA]at this;omega
 have Ro:Z (aK<|jm q<|aK<|md q S)<=9:=by have:=oc<|jm q<|aK<|md q S;have:=H2 q<|aK<|md q S;omega
 have hde:=acY (aK<|md q S) q dX dX dX HQ.1;have hgc:=Di q q1 dX _ _ dX dX HQ A6;refine M<|R<|rc J J v<|rc J J v<|rc J J hde<|rc J J hgc<|j J<|c J (λm=>?_)<|λm=>?_
 .have m:(Z (fH q (aK<|md q S)<|aK<|jm q<|aK<|md q S):G)≠1:=bne_iff_ne.1 m;have K:D9 q S=ah:=n8 λe=>m tS
  have b:q<p:=Nat.lt_of_le_of_ne q3 λe=>by rw[e,U]at K;cases K
  let ⟨aV,r1,r2,r3,r4,r5⟩:=ai5 q dX;refine aD<|ay<|bw J J r5 J<|rt J<|eL<|aS aV ⟨r1,dX,zl λe=>r4 p b e hp⟩ (dX:p-aV<p-q) aU
 .have m:((Z (fH q (aK<|md q S)<|aK<|jm q<|aK<|md q S):G) !=1)=ah:=m;have K:D9 q S=ae:=qq (by have l:=bne_eq_false_iff_eq.1 m;omega);have b:q=p:=Nat.le_antisymm q3<|zl λe=>Q q e ⟨q1,q2,K⟩;subst b;refine bh<|aI ?_;rw[F]at v;refine R<|rc J J v<|rc J J apJ<|j J<|R<|fM (.sl aq) [] J J (j J<|M<|I J ?_);refine ay<|bf (α:=Y×V (V G)) (λs=>⟨[(3,N .z f0),(4,N .z S),(5,cU q),(8,.c<|.S MT L),(10,.c<|.X 6000000),(11,y s.1)],[(6000000,.vec 167 (.sl aq) s.2)],8,[]⟩) (λs=>s.1<=Z L/\s.2=(h s.1 L).map (·.1)) (λs=>Z L-s.1) (0,[]) ⟨a8 _,J⟩ aU ?_;rintro⟨i,o⟩ ⟨i1,i2⟩;simp only at i1 i2;have ho:Z o<=9:=by rw[i2,cR,fQ];omega
  refine M<|I J<|c J (λl=>?_)<|λl=>?_
  .have l:i<Z L:=by have l:(i:G)<(Z L:G):=aT l;omega
   have ei:af ((i:G))=i:=b6 i;refine aD<|M<|ay ?_;refine cA<|rl (.sl aq) [_] J J (ra J J J J J J J J J ?_ ?_<|j J ?_) (hp:=aF)
   .show(Z o+1+(Z o+1)/4+192)*24<=_;omega
   .show(Z o+1)*1<=_;omega
   refine bH<|rt J (hp:=aF)<|aS (i+1,o++[(E L (af<|(i:G)) d0M).1]) ⟨l,?_⟩ (dX:Z L-(i+1)<Z L-i)<|Wk.trans (wk (st':=⟨[(3,N .z f0),(4,N .z S),(5,cU q),(8,.c<|.S MT L),(10,.c<|.X 9007000),(11,y ((i+1:Y):G))],[(9007000,.vec 167 (.sl aq)<|o++[(E L (af<|(i:G)) d0M).1])],20,[]⟩) (bJ J) ⟨bR J,A⟩)<|Wk.trans (gw 6000000 9007000 J J J) aU;show o++[_]=(h (i+1) L).map (·.1);rw[ei,i2,q6,fo,aM,cK l];rfl
  .have l:i=Z L:=by have l:¬(i:G)<(Z L:G):=a4 l;omega
   rw[l,fR]at i2;subst i2;refine bh<|aI ?_;refine c8 6000000 J J J ?_;refine R<|rc J J D2<|rc J J D2<|rc J J had<|j J<|I J ?_;have hpw:∀l7:Y,((q:G)^l7<=((fY S:Y):G)+((fY S:Y):G)↔q^l7<=2*fY S):=λl7=>by rw[<-s7];omega
   refine M<|ay<|bf (α:=Y) (λk=>⟨[(3,N .z f0),(4,N .z S),(5,cU q),(10,N (.sl aq)<|L.map (·.1)),(12,.c<|.P 9005000 0),(13,y k)],[(9005000,.box 42 0<|av .z<|((fY S:Y):G)+((fY S:Y):G))],11,[]⟩) (λk=>1<=k/\k<=mF q (2*fY S)) (λk=>mF q (2*fY S)-k) 1 ⟨aW _,k1⟩ aU ?_;rintro k ⟨e1,e2⟩;refine M<|R<|rc J J (QH q k dX dX)<|rc J J (J3 _ _)<|j J<|c J (λB=>?_)<|λB=>?_
   .have B:=(hpw k).1<|aci.1<|aT B;have h4:k≠mF q (2*fY S):=λe=>by rw[e]at B;omega
    refine aD<|ay<|rt J (hp:=aF)<|eL<|aS (k+1) ⟨dX,dX⟩ (dX:mF q (2*fY S)-(k+1)<mF q (2*fY S)-k) aU
   .have B:¬q^k<=2*fY S:=λe=>a4 B (aci.2<|(hpw k).2 e)
    have h4:k=mF q (2*fY S):=Nat.le_antisymm e2<|zl λe=>B<|k3 k e1 e;subst h4;refine bh<|aI ?_;refine R<|rc J J hlX<|rc J J (QH q _ dX dX)<|rc J J Pl<|j J<|R<|fM (.sl .q) [] J J (j J<|M<|I J ?_);refine ay<|bf (α:=Y×V (V D)) (λs=>⟨[(3,N .z f0),(14,N (.sl .z) n),(15,.c<|.X 13000000),(16,y s.1)],[(13000000,.vec 29 (.sl .q) s.2)],15,[]⟩) (λs=>s.1<=Z n/\s.2=(h s.1 n).map (jO<|dC a)) (λs=>Z n-s.1) (0,[]) ⟨a8 _,J⟩ aU ?_;rintro⟨i,o⟩ ⟨i1,i2⟩;simp only at i1 i2;have ho:Z o<=9:=by rw[i2,cR,fQ];omega
    refine M<|I J<|c J (λl=>?_)<|λl=>?_
    .have l:i<Z n:=by have l:(i:G)<(Z n:G):=aT l;omega
     have hm:E n (af<|(i:G)) (ET.dA<|.sl .z)=n[i]:=by rw[b6,aM,cK l];rfl
     have hb:=EA _<|si l;rw[<-hm]at hb;refine aD<|M<|ay ?_;refine cA<|rc J J hb (rl (.sl .q) [_] J J (ra J J J J J J J J J ?_ ?_<|j J ?_)) (hp:=aF)
     .show(Z o+1+(Z o+1)/4+192)*24<=_;omega
     .show(Z o+1)*1<=_;omega
     refine bH<|rt J (hp:=aF)<|aS (i+1,o++[jO (dC a) (E n (af<|(i:G))<|ET.dA<|.sl .z)]) ⟨l,?_⟩ (dX:Z n-(i+1)<Z n-i)<|Wk.trans (wk (st':=⟨[(3,N .z f0),(14,N (.sl .z) n),(15,.c<|.X 16013000),(16,y ((i+1:Y):G))],[(16013000,.vec 29 (.sl .q)<|o++[jO (dC a) (E n (af<|(i:G))<|ET.dA<|.sl .z)])],30,[]⟩) (bJ J) ⟨bR J,A⟩)<|Wk.trans (gw 13000000 16013000 J J J) aU;show o++[_]=(h (i+1) n).map (jO<|dC a);rw[hm,i2,q6,fo,cK l];rfl
    .have l:i=Z n:=by have l:¬(i:G)<(Z n:G):=a4 l;omega
     rw[l,fR]at i2;subst i2;refine bh<|aI ?_;refine c8 13000000 J J J ?_;exact I J<|cJ J
def ad0{s t u}{a d}(m:bF a)(g:bF d)(e:d≠[])(n:Z a<=500)(o:Z d<=500)(k:Ht (2^t) (lx a))(l:Ht (2^u) (lx d))(f:t+(u+1)*(Z a+1-Z d)<32*s)(p:u<32*s):wH s a d:=by
 let ⟨q1,q,v⟩:=DA g e k l;refine⟨n,o,g.ne e,λi=>l.qs (mB p) i,λj x i=>?_,λf=>(rV m).ne f,λi=>q.qs (mB f) i⟩;by_cases hl:Z d<=Z a
 .exact(v hl j x).qs (mB f) i
 .have:j=0:=by omega
  subst this;exact k.qs (mB O) i
def TX{t u}(k:t<=2000)(l:u<=2000){a b}(e:bF a)(f:bF b)(d:b≠[])(m:Z a<=9)(n:Z b<=9)(g:Ht (2^t) (lx a))(i:Ht (2^u) (lx b)):r z 116 [N .q a,N .q b] (N .q<|dO a b):=by have o:=cv.2 d;have p:(u+1)*(Z a+1-Z b)<=(u+1)*9:=ia _ O;exact akf (s:=100000000) O O e d<|ad0 e f d O O g i O O
def ad1{t}(x:t<=2000){a b}(l:bF a)(d:bF b)(p:a≠[])(B:Z a<=9)(F:Z b<=9)(m:Ht (2^t) (lx a))(n:Ht (2^t) (lx b)):∃g,r z 131 [N .q a,N .q b] (N .q g)/\bF g/\G5 (lx g) (lx a) (lx b):=by
 let ⟨C,g2,u⟩:=YE (k:=Z b+1) l d O p;obtain⟨s,H⟩:∃s,s=100000000:=⟨_,J⟩;have f:yu s (Z b+1) a b/\(∀i,QS s (E (eJ (Z b+1) a b) i 0))/\Z (eJ (Z b+1) a b)<=500:=by
  rw[yu,eJ];split
  .rename_i e;exact⟨.inl e,λi=>m.qs (mB O) i,O⟩
  .rename_i e;have K:=cv.2 e;let ⟨q1,v,L⟩:=DA d e m n;have P:(t+1)*(Z a+1-Z b)<=(t+1)*9:=ia _ O;have o:3^Z b<=19683:=bQ (fh T (O:Z b<=9)) T;let ⟨i1,i2,i3⟩:=YM (s:=s) (Z b) (t+(t+1)*(Z a+1-Z b)) b (da<|cN a b) d (po _) (by rcases Lz (a:=a) e with h|h;omega;rw[h,rz];omega) ((Lz (a:=a) e).symm) O
    (n.le<|fh T<|Nat.le_add_right _ _) (Rb (rV l) v) (by refine bQ (ia _ o) ?_;omega)
   exact⟨.inr ⟨ad0 l d e O O m n O O,i1⟩,i2,i3⟩
 exact⟨_,akh O O (Z b+1) a b l d f.1 O f.2.1,g2,u⟩
def kR(n:Y):Y->Y:=λm=>m-n
def ad2 n L:pF (kR n) L=pF (kW<|n+1) L*pF (kR<|n+1) L:=by rw[<-AK];exact wM λx _=>by unfold kW kR;split<;>omega
def apQ{L}(a:FL L){n}{d}(k:G5 d (pF (kW n) L) (pF (kR n) L)):d=pF (kW<|n+1) L:=by
 let ⟨d1,d2,d3,U,V,d4⟩:=k;refine d1.eq (uS a.mo) ?_ ?_
 .have f:Co d (pF (kP n) L):=Du d1.ne λQ g q1 l=>by
   let ⟨x,hx,t,m⟩:=yz g l;let ⟨z,i,o,p⟩:=yz g<|dvd_trans q1 d3;have q:x.2=n:=Q3.1 (by have:=G6 n x.2;omega);have u:n<z.2:=by unfold kR at o;omega
   have s:x.1=z.1:=(a.fI x hx).eq (a.fI z i) (a.mo x hx) (a.mo z i)<|dvd_trans (g.assoc (a.fI x hx) m) p;exact FL.Q2 a.AJ hx i (λe=>by rw[e]at q;omega) s
  rw[Q4]at d2;exact f.dvd d2
 .rw[d4];exact dvd_add (dI (by rw[Q4 n L];exact dvd_mul_left _ _) _)<|dI (by rw[ad2 n L];exact dvd_mul_right _ _) _
def apR{a}(f:bF a)(d:2<=Z a):bF (rP a):=by
 right;rw[QL,Yd O,(O:Z a-1-1+1=Z a-1)];have g:=f.ne (λe=>by rw[e]at d;simp at d);intro e;rcases yw.1 e with e|e
 .have:((Z a-1:Y):G)=0:=by exact_mod_cast e
  omega
 .exact g e
def apS{a:Y->Y}(d:∀m,a m<=m) L:pF a L∣pF id L:=by refine⟨pF (λm=>m-a m) L,?_⟩;rw[<-AK];exact wM λx _=>by have:=d x.2;show x.2=_;omega
def Bu:Y->Y->V D->V D->V (V D×G)->V (V D×G)->Prop
 |0,_,_,_,_,_=>False
 |k+1,n,a,d,acc,out=>if 1<Z a then∃p g e,
   r z 131 [N .q a,N .q d] (N .q p)/\r z 116 [N .q a,N .q p] (N .q g)/\r z 116 [N .q d,N .q p] (N .q e)/\
   Bu k (n+1) p e (if 1<Z g then acc++[(g,(n:G))]else acc) out
  else out=acc
def apT(a s t:V D) out(Q:Z a<=9)(u:¬Z a<2){d g v:V D}(B:r z 132 [N .q a] (N .q d))(F:r z 131 [N .q a,N .q d] (N .q g))(H:r z 29 [N .q a] (N .q v))(L:r z 116 [N .q v,N .q g] (N .q s))
  (P:Bu (Z a) 1 s g [] out):r z 140 [N .q a] (N UT out):=by
 refine aJ Tryz.func140 ?_
 refine I J<|R<|fM UT [] J J (j J<|M<|I J<|c J (λh=>?_)<|λ_=>aD ?_)
 .have h:(Z a:G)<2:=aT h;exact absurd h O
 refine R<|rc J J B<|rc J J F<|j J<|R<|rc J J H<|rc J J L<|j J<|M<|I J ?_
 refine ay<|bf (α:=Y×Y×V D×V D×V (V D×G)) (λx=>⟨[(3,.c<|.X 1000000),(4,N .q x.2.2.2.1),(5,N .q x.2.2.1),(6,y x.2.1)],[(1000000,.vec 114 UT x.2.2.2.2)],7,[]⟩) (λx=>Bu x.1 x.2.1 x.2.2.1 x.2.2.2.1 x.2.2.2.2 out/\Z x.2.2.2.2<x.2.1/\x.2.1+x.1<=20) (λx=>x.1) (Z a,1,s,g,[]) ⟨P,Nat.zero_lt_one,(O:1+Z a<=20)⟩ aU ?_
 rintro⟨k,n,s,t,e⟩ ⟨i,u,C⟩
 simp only at i u C
 cases k with
 |zero=>exact absurd i<|λh=>h
 |succ k=>
  rw[Bu]at i
  refine M<|I J<|c J (λl=>?_)<|λl=>?_
  .have l:1<Z s:=by have l:(Z s:G)>1:=aT l;omega
   rw[ao l]at i;let ⟨p,f,K,d1,d2,d3,i⟩:=i;refine c7<|aI<|M<|ay<|R<|rc J J d1<|j J<|R<|rc J J d2<|j J<|m0 ⟨[(3,.c<|.X 1000000),(4,N .q t),(6,y n),(7,N .q p)],[(1000000,.vec 114 UT (if 1<Z f then e++[(f,(n:G))]else e))],30,[]⟩ ?_<|λm=>I J<|c J (λo=>?_)<|λo=>c7 ?_
   .refine I J<|cA<|rc J J d3<|j J<|bH<|rt J (hp:=aF)<|aS (k,n+1,p,K,if 1<Z f then e++[(f,(n:G))]else e) ⟨i,?_,by show n+1+k<=_;omega⟩ (dJ k) aU;show Z (if 1<Z f then e++[(f,(n:G))]else e)<n+1;split
    .rw[ix];show Z e+1<_;omega
    .omega
   .have o:1<Z f:=by have o:(Z f:G)>1:=aT o;omega
    rw[ao o]at m;refine cA<|rl UT [(f,(n:G))] J J (ra J J J J J J J J J ?_ ?_<|j J ?_)
    .show(Z e+1+(Z e+1)/4+192)*32<=_;omega
    .show(Z e+1)*2<=_;omega
    .exact eZ m<|Wk.trans (wk (st':=⟨[(3,.c<|.X 11005000),(4,N .q t),(6,y n),(7,N .q p)],[(11005000,.vec 114 UT<|e++[(f,(n:G))])],12,[]⟩) (bJ J) ⟨bR J,A⟩)<|Wk.trans (gw 1000000 11005000 J J J) aU
   .have o:¬1<Z f:=by have o:¬(Z f:G)>1:=a4 o;omega
    rw[w o]at m;exact eZ m aU
  .have l:¬1<Z s:=by have l:¬(Z s:G)>1:=a4 l;omega
   rw[w l]at i;rw[i];exact mU<|qe<|nv<|mV<|aI<|c8 1000000 J J J<|I J<|bI<|atR J
def apU{t}(ht:t<=1500){a}(ha:bF a)(h0:a≠[])(la:Z a<=9)(hA:Ht (2^t) (lx a)){L}(P:FL L)(hF:pF id L=lx (da a))(hD:∀tH,Mo tH->tH∣pF id L->Ht (2^t) tH):
  ∃F,r z 140 [N .q a] (N UT F)/\F.map (λp=>(lx p.1,p.2))=nb L (Z a) 1/\∀p∈F,bF p.1:=by
 have hl:=cv.2 h0
 have lm:=AL ha
 have jS:sz (pF id L)=Z a:=by rw[hF,fj<|po a,lm]
 have Q:∀{o:Y->Y}{s:V D},(∀m,1<=m->o m<=m)->bF s->lx s=pF o L->Z s<=9/\s≠[]/\Ht (2^t) (lx s)/\Mo (lx s):=λ{o s} hc W e=>by
  have e2:pF o L=pF (λm=>min (o m) m) L:=wM λx H=>by have:=hc x.2<|P.pos x H;show _=min _ _;omega
  have hm:Mo (lx s):=by rw[e];exact uS P.mo
  have hd:lx s∣pF id L:=by rw[e,e2];exact apS (λm=>Nat.min_le_right _ _) L
  have B:=iK hd (uS P.mo).ne;rw[fj W,jS]at B;exact⟨O,λe=>by rw[e,nF]at hm;exact hm.ne J,hD _ hm hd,hm⟩
 by_cases h2:Z a<2
 .have H:∀x∈L,x.2<1:=λx H=>by have:=Rh P H;omega
  refine⟨[],?_,by rw[Rf _ H];rfl,λp hp=>by cases hp⟩;refine aJ Tryz.func140 ?_;refine I J<|R<|rl UT [] J J (j J<|M<|I J<|c J (λ_=>?_)<|λh=>?_)
  .exact I J<|bI<|cG<|atR J
  .have h:¬(Z a:G)<2:=a4 h;exact absurd h O
 have qd:=apR ha O
 have ed:lx (rP a)=bt (lx a):=ajY a
 have ld:=QL a
 have td:Ht (2^(t+4)) (lx<|rP a):=by rw[ed];exact(hA.bt (n:=9) (by rw[fj ha];omega) O).le (by rw[lI,gO];exact ia _ T)
 have c1:=aj9 (k:=100000000) a O (λi=>hA.qs (mB O) i) O O
 generalize rP a=d at*
 have lift:∀{a b:Y}{A:Rx},Ht (2^a) A->a<=b->Ht (2^b) A:=λh N1=>h.le<|fh T N1
 let ⟨g,c2,qg,gg⟩:=ad1 (t:=t+4) (a:=a) (b:=d) O ha qd h0 O O (lift hA O) td
 obtain⟨o,ec⟩:∃o,o=(E a (Z a-1) 0)⁻¹ :=⟨_,J⟩
 have hc0:o≠0:=by rw[ec];exact qG<|ha.ne h0
 have eM:lx (da a)=K o*lx a:=by rw[uT h0,ec]
 have gF:G5 (lx g) (pF id L) (bt<|pF id L):=by let ⟨g1,g2,g3,U,Bs,g4⟩:=gg;rw[hF,eM,GX];rw[ed]at g3 g4;refine⟨g1,dI g2 _,dI g3 _,U*K o⁻¹,Bs*K o⁻¹,?_⟩;have e1:U*K o⁻¹ *(K o*lx a)+Bs*K o⁻¹ *(K o*bt (lx a))=(K o⁻¹ *K o)*(U*lx a)+(K o⁻¹ *K o)*(Bs*bt (lx a)):=fq;rw[e1,pa hc0,one_mul,one_mul];exact g4
 let ⟨eg,_⟩:=ajX P gF
 have eg:lx g=pF (kR 1) L:=eg
 have hkW:∀n m,1<=m->kW n m<=m:=λn m h=>bQ (Yy n m) h
 have hkR:∀n m,1<=m->kR n m<=m:=λn m _=>Nat.sub_le _ _
 let ⟨g9,g0,tg,mg⟩:=Q (hkR 1) qg eg
 have c3:=Rj (k:=100000000) a O (λi=>hA.qs (mB O) i) (λ_=>ha.ne h0) O
 have c4:=TX (t:=t) (u:=t) (a:=da a) (b:=g) O O (po a) qg g0 O g9 (by rw[<-hF];exact hD _ (uS P.mo)<|dvd_refl _) tg
 have ewq:lx (dO (da a) g)=pF (kW 1) L:=yx mg.ne ((yC (po a) qg g0<|hF▸gF.l).symm.trans<|by rw[<-hF,Q5 P,eg];rfl)
 have qw:=Dy (da a) g
 generalize dO (da a) g=w1 at*
 have run:∀(k n:Y)(s y:V D)(C:V (V D×G)),n+k=Z a+1->1<=k->1<=n->bF s->bF y->lx s=pF (kW n) L->lx y=pF (kR n) L->∃v,Bu k n s y C (C++v)/\v.map (λp=>(lx p.1,p.2))=nb L k n/\∀p∈v,bF p.1:=by
  intro k;induction k with
  |zero=>intro n s y C _ h;omega
  |succ k ih=>
   intro n s y C hnk _ hn W hy S ey
   let ⟨w9,w0,tw,mw⟩:=Q (hkW n) W S
   let ⟨y9,y0,ty,my⟩:=Q (hkR n) hy ey
   by_cases hc:1<Z s
   .obtain⟨x,H,hxn⟩:∃x∈L,n<=x.2:=eX λjY=>by
     have e1:pF (kW n) L=1:=Lp λx H=>w λh=>jY ⟨x,H,h⟩
     rw[e1]at S;have:=fj W;rw[S,qF]at this;omega
    have Bk:=Rh P H;let ⟨p,d1,qp,gp⟩:=ad1 (t:=t) (a:=s) (b:=y) O W hy w0 w9 y9 tw ty;rw[S,ey]at gp;have ep:=apQ P gp;let ⟨p9,p0,tp,mp⟩:=Q (hkW<|n+1) qp ep;have d2:=TX (t:=t) (u:=t) O O W qp p0 w9 p9 tw tp;have d3:=TX (t:=t) (u:=t) O O hy qp p0 y9 p9 ty tp;have eg2:lx (dO s p)=pF (kP n) L:=yx mp.ne ((yC W qp p0<|by rw[S];exact gp.l).symm.trans<|by rw[S,ep];exact Q4 n L);have ez:lx (dO y p)=pF (kR<|n+1) L:=yx mp.ne ((yC hy qp p0<|by rw[ey];exact gp.r).symm.trans<|by rw[ey,ep,mul_comm<|pF (kR<|n+1) L];exact ad2 n L);have qg2:=Dy s p;have qz:=Dy y p;generalize dO s p=f at*;generalize dO y p=fV at*;let ⟨v,o1,o2,o3⟩:=ih (n+1) p fV (if 1<Z f then C++[(f,(n:G))]else C) O O O qp qz ep ez;have SH:sz (pF (kP n) L)=Z f:=by rw[<-eg2,fj qg2]
    refine⟨(if 1<Z f then[(f,(n:G))]else[])++v,?_,?_,?_⟩
    .rw[Bu,ao hc];refine⟨p,f,fV,d1,d2,d3,?_⟩;by_cases B:1<Z f
     .rw[ao B]at o1⊢;rw[ao B,<-lD];exact o1
     .rw[w B]at o1⊢;rw[w B];exact o1
    .rw[nb,fo,o2,SH];by_cases B:1<Z f
     .rw[ao B,ao B,gR,If,eg2]
     .rw[w B,w B];rfl
    .intro q X;rcases aY.1 X with X|X
     .by_cases B:1<Z f
      .rw[ao B,iU]at X;rw[X];exact qg2
      .rw[w B]at X;cases X
     .exact o3 q X
   .have jY:∀x∈L,x.2<n:=λx H=>Nat.lt_of_not_le λh=>by have B:=iK (G4 (c:=kW n) H<|by rw[Lq.2 h];omega) (uS P.mo).ne;have h2:=(P.fI x H).1;rw[<-S,fj W]at B;omega
    refine⟨[],?_,by rw[Rf _ jY];rfl,λp hp=>by cases hp⟩;rw[Bu,w hc,g8]
 let ⟨F,o1,o2,o3⟩:=run (Z a) 1 w1 g [] O O O qw qg ewq eg
 exact⟨F,apT a w1 g F la h2 c1 c2 c3 c4 o1,o2,o3⟩
open Classical in
noncomputable def kU(q:V D):V (V D):=if e:∃a,((∀u∈a,E u (Z u-1) 0=1/\bF u/\Mo (lx u)/\bl (lx u))/\nk a=lx q)/\r z 141 [N .q q] (N (.sl .q) a)then Classical.choose e else[]
def ad7{q}(d:iL q)(f:∀i,QS 20 (E q i 0)):((∀u∈kU q,E u (Z u-1) 0=1/\bF u/\Mo (lx u)/\bl (lx u))/\nk (kU q)=lx q)/\r z 141 [N .q q] (N (.sl .q)<|kU q):=by let ⟨G,g,g2,k⟩:=apI d f;have e:∃a,((∀u∈a,E u (Z u-1) 0=1/\bF u/\Mo (lx u)/\bl (lx u))/\nk a=lx q)/\r z 141 [N .q q] (N (.sl .q) a):=⟨_,d.unG g g2,k⟩;unfold kU;rw[dif_pos e];exact uL e
def apX{ir:V D->V (V D)}{a}{i}(e:i<Z a):fw ir (h (i+1) a)=fw ir (h i a)++(ir (E a i xh).1).map (λu=>(u,(E a i xh).2))/\∃C,fw ir a=fw ir (h (i+1) a)++C:=by
 have d:h (i+1) a=h i a++[E a i xh]:=by rw[q6,aM,cK e];rfl
 refine⟨?_,fw ir<|az (i+1) a,?_⟩
 .rw[d,fw,fw,Cy];simp
 .rw[fw,fw,fw,<-Cy,q8]
def apY{a:V D}(l:nl a):∃Q,acr a Q/\Z Q<=8/\(∀x∈Q,Ef 20 x)/\r z 87 [N .q a] (.t [(ae,av .q<|E a (Z a-1) 0),(ah,[.S UT Q]),(ah,[.I .i64 0])]):=by
 let ⟨L,hL,U⟩:=Rx.Yx _ (Rx.lx<|da a) (dJ _) l.mo;let ⟨out,o1,o2,o3⟩:=apU (t:=1500) O l.can l.ne l.l9 l.hA hL U<|λtH hD hd=>(l.ht hD<|U▸hd).le<|Rx.Ly 1500 (k:=600) T;let ⟨p1,W,p3,p4,p5,p6⟩:=l.anQ (ir:=kU) (λq l hq=>(ad7 l hq).1) hL U o2 o3;let ⟨a1,a2⟩:=TV _ (fw kU out) J;refine⟨pP<|fw kU out,⟨λx X=>p4 x<|a1.mem_iff.1 X,by rw[anJ a1,p5],a1.symm.pairwise p6 (λl e=>l e.symm),apE a2⟩,by rw[a1.length_eq];exact W,λx X=>p3 x<|a1.mem_iff.1 X,?_⟩;refine aJ Tryz.func87 ?_;have la:=cv.2 l.ne;have l9:=l.l9;have Fi:Z out<=9:=by have h1:=acE (L:=L) (Z a) 1;rw[<-o2,cR]at h1;omega
 refine I J<|M<|I J<|c J (λh1=>?_)<|λ_=>aD ?_
 .exfalso;have h1:((Z a:G)==0)=ae:=h1;have:=eq_of_beq h1;omega
 refine M<|I J<|c J (λh1=>?_)<|λ_=>aD ?_
 .exfalso;have h1:(Z a:G)>13:=aT h1;omega
 refine R<|rl UT [] J J (j J<|bw J J o1 J<|M<|I J ?_);refine ay<|bf (α:=Y) (λi=>⟨[(0,N .q a),(2,.c<|.P 0 0),(5,N UT<|pP<|fw kU<|h i out),(6,N UT out),(7,y i)],[(0,.box 44 0 [.B ah,.V<|.slice none 0 0,.B ah,.V<|.slice none 0 0])],20,[]⟩) (λi=>i<=Z out) (λi=>Z out-i) 0 (a8 _) (wk ⟨sR J,sR J,sE J J,sR J,sR J,A⟩ ⟨bE J J,A⟩) ?_;intro i hi;refine M<|I J<|c J (λh1=>?_)<|λh1=>?_
 .have h1:i<Z out:=by have h1:(i:G)<(Z out:G):=aT h1;omega
  have b:i+1<=Z out:=h1;have w:(E out (af<|(i:G))<|ET.dA UT)=E out i xh:=a6 (λfV=>E out fV xh)<|b6 i;let ⟨g1,g2,g3⟩:=p1 (E out i xh) Nk;have F:=(ad7 g1 g2).2;let ⟨o,C,hC⟩:=apX (ir:=kU) h1;rw[<-w]at F o;generalize JG:kU (E out (af<|(i:G))<|ET.dA UT).1=us at*;generalize hm:(E out (af<|(i:G))<|ET.dA UT).2=m at*;have mb:Z us<=8:=by have h3:=W;rw[hC,o,ix,ix,cR]at h3;omega
  refine aD<|M<|ay<|R<|rc J J F (j J<|I J ?_) (hp:=aF);refine ay<|bf (α:=Y) (λd=>⟨[(0,N .q a),(2,.c<|.P 0 0),(5,N UT<|pP<|fw kU (h i out)++(h d us).map λu=>(u,m)),(6,N UT out),(7,y i),(8,N (.sl .q) us),(9,y d)],[(0,.box 44 0 [.B ah,.V<|.slice none 0 0,.B ah,.V<|.slice none 0 0])],30,[]⟩) (λd=>d<=Z us) (λd=>Z us-d) 0 (a8 _) (wk ⟨sR J,sR J,sE J ?_,sR J,sR J,sR J,sR J,A⟩ ⟨bR J,A⟩) ?_
  .rw[Ge,If,g8]
  intro d hj;refine M<|I J<|c J (λn=>?_)<|λn=>?_
  .have n:d<Z us:=by have n:(d:G)<(Z us:G):=aT n;omega
   have H:(E us (af<|(d:G))<|ET.dA<|.sl .q)=us.getD d []:=a6 (λfV=>us.getD fV [])<|b6 d;have htk:h (d+1) us=h d us++[us.getD d []]:=by rw[q6,aM,cK n];rfl
   have v:∀p∈fw kU (h i out)++us.map (λu=>(u,m)),Ef 20 p:=λp s=>p3 p (by rw[hC,o];exact dY _ s)
   have K:∀p∈fw kU (h i out)++(h d us).map (λu=>(u,m)),Ef 20 p:=λp s=>v p (by
    rcases aY.1 s with s|s
    .exact dY _ s
    .obtain⟨u,hu,rfl⟩:=je.1 s;exact fU _<|To (f:=λu=>(u,m))<|BD hu)
   have hlen:Z (fw kU (h i out)++(h d us).map (λu=>(u,m)))<=8:=by have h3:=W;rw[hC,o,ix,ix,cR]at h3;rw[ix,cR,fQ];omega
   let ⟨b1,_⟩:=TV _ (fw kU (h i out)++(h d us).map (λu=>(u,m))) J;have g:=aoR (pP<|fw kU (h i out)++(h d us).map (λu=>(u,m))) (us.getD d [],m) (by rw[b1.length_eq];omega) (v _<|fU _<|To (f:=λu=>(u,m))<|by rw[aM,cK n];exact si n)<|λp s=>K p<|b1.mem_iff.1 s;have g:r z 142 [N UT (pP<|fw kU (h i out)++(h d us).map (λu=>(u,m))),.a<|av UT (us.getD d [],m)] (N UT<|pP<|fw kU (h i out)++(h (d+1) us).map (λu=>(u,m))):=by rw[htk,fo,<-lD,gR,If,adU];exact g
   have g:r z 142 [N UT (pP<|fw kU (h i out)++(h d us).map (λu=>(u,m))),.a<|av UT (E us (af<|(d:G))<|ET.dA<|.sl .q,(E out (af<|(i:G))<|ET.dA UT).2)] (N UT<|pP<|fw kU (h i out)++(h (d+1) us).map (λu=>(u,m))):=by rw[H,hm];exact g
   refine aD<|M<|ay<|cA<|rc J J g (j J<|bH<|rt J (hp:=aF)<|aS (d+1) n (O:Z us-(d+1)<Z us-d) aU) (hp:=aF)
  .have n:d=Z us:=by have n:¬(d:G)<(Z us:G):=a4 n;omega
   subst n;rw[fR,<-o];exact bh<|bH<|rt J (hp:=aF)<|aS (i+1) b (O:Z out-(i+1)<Z out-i) aU
 .have h1:i=Z out:=by have h1:¬(i:G)<(Z out:G):=a4 h1;omega
  subst h1;rw[fR];refine bh<|aI ?_;refine I J (hp:=aF)<|bO J ?_;have e:af ((Z a:G)-1)=Z a-1:=O;show AV.t [(ae,av .q<|E a (af<|(Z a:G)-1) 0),(ah,[C.S UT (pP<|fw kU out)]),(ah,[.I .i64 0])]=_;rw[e]
def Ns:V (V D×G)->Bool
 |[x]=>x.2==1
 |_=>ah
def ap0{a}(d:Z a≠1):Ns a=ah:=by
 match a with
 |[]=>rfl
 |[x]=>exact absurd J d
 |x::y::l=>rfl
def ap1{a:V D}{d:V (V D×G)}{e:D}(f:r z 87 [N .q a] (.t [(ae,av .q e),(ah,[.S UT d]),(ah,[.I .i64 0])])):r z 33 [N .q a] (cB<|Ns d):=by
 refine aJ Tryz.func33 ?_;refine I J<|bw J J f J<|R<|rg 14 J J (λ_=>rg 19 J J (λh=>?_)<|λh=>?_)<|λh=>eV
 .have h:(Z d:G)=1:=eq_of_beq h;obtain⟨x,rfl⟩:=List.length_eq_one_iff.1 (O:Z d=1);exact j J<|bO J J
 .have h:(Z d:G)≠1:=m5 h;exact j J<|bO J<|a6 cB (ap0 O).symm
def ap2{a}(d:bF a):eT a=a:=ph (kO a) d<|rU a
structure Bv(l:V G):Prop where
 l4:l.length<=4
 sm:∀x∈l,-128<=x/\x<=127
def TY(l:V G):E (l++[1]) (Z l) 0=1:=by simp[aM]
def TZ l:bF ((l++[1]).map iQ):=acF (n:=Z l) ax<|TY l
def ad8{l}(e:Bv l) i:∃d:G,aA d<=128/\E ((l++[1]).map iQ) i 0=(d:D):=by
 have:=Bo (l++[1]) i;rw[gC]at this;refine⟨_,?_,this⟩;rw[aM];cases hx:(l++[1])[i]? with
 |none=>decide
 |some x=>
  have a:=JT hx
  rcases aY.1 a with a|a
  .have:=e.sm x a;show aA x<=128;omega
  .have:x=1:=by simpa using a
   subst this;decide
def ad9{l}(a:Bv l):Ht (2^7) (lx<|(l++[1]).map iQ):=⟨1,T,T,λi=>by let ⟨z,d,h2⟩:=ad8 a i;exact⟨z,d,by rw[gC,h2];exact rQ _⟩⟩
def ap3{l}(a:Bv l) i:QS 1 (E ((l++[1]).map iQ) i 0):=(ad9 a).qs (mB T) i
def ad' l(a:Bv l):uV (l++[1]) 4=(l++[1]).map iQ:=by rw[uV,iO (by rw[ix,rG];have:=a.l4;omega),ap2<|TZ l]
structure lW(m:V D):Prop where
 can:bF m
 top:m.getD (m.length-1) 0=1
 l2:2<=m.length
 l5:m.length<=5
 fI:bl (lx m)
 ht:Ht (2^7) (lx m)
def lW.of{l}(a:Bv l)(d:l≠[])(e:bl (lx<|(l++[1]).map iQ)):lW ((l++[1]).map iQ):=by have f:=cv.2 d;have g:=a.l4;refine⟨TZ l,?_,bV,bV,e,ad9 a⟩;have:=Bo (l++[1])<|Z l;rw[gC,TY]at this;rw[cR,ix,rG,eh,this];rfl
def ap4{a}{d}(g:acr a d)(i:E a (Z a-1) 0=1)(n:bF a)(k:a≠[])(f:Ns d=ae):bl (lx a):=by
 match d,f with
 |[x],f=>
  have l:x.2=1:=eq_of_beq f
  have e:=g.prod
  let ⟨_,i2,_⟩:=g.ok x ax
  rw[gI,gI,l,Rx.mul_one]at e
  have m:lx (da a)=lx a:=by rw[uT k,i,show(1:D)⁻¹ =1 by decide+kernel,oh,Rx.one_mul]
  rw[m,show af (1:G)=1 from J,qE]at e
  rw[<-e];exact i2
def ap5{l}(h:Bv l):∃v:Bool,r z 32 [N .q ((l++[1]).map iQ)] (cB v)/\(v=ae->l≠[]/\bl (lx<|(l++[1]).map iQ)):=by
 have H:=h.l4;have d:Z ((l++[1]).map iQ)=Z l+1:=ax;have a:E ((l++[1]).map iQ) (Z ((l++[1]).map iQ)-1) 0=1:=by have:=Bo (l++[1])<|Z l;rw[gC,TY]at this;rw[d,eh,this];rfl
 have o:=TZ l;have p:=ap3 h;have s:=ad8 h;generalize hm:(l++[1]).map iQ=m at*;have x:m≠[]:=λe=>by subst e;cases d
 have t:=adu (k:=1) T m O (by rw[a];decide) p x;by_cases C:l=[]
 .refine⟨ah,?_,λe=>ve⟩;subst C;refine aJ Tryz.func32 ?_;refine I J<|M<|R<|rc J J t<|rg 6 J J (λh=>eV)<|λ_=>?_;refine rg 11 J J (λ_=>j J<|c J (λ_=>I J<|bI<|cG<|atR J)<|λh=>eV)<|λn=>?_;have n:¬(Z m:G)<2:=a4 n;rw[rz]at d;exact absurd n O
 have K:=cv.2 C;have F:nl m:=an4 o x O (D:=1) T T λi=>by let ⟨L,P,n⟩:=s i;exact⟨L,bQ P T,by rw[n];exact rQ _⟩
 let ⟨fs,f1,_,_,f4⟩:=apY F;have u:=ap1 f4;refine⟨Ns fs,?_,λQ=>⟨C,ap4 f1 a o x Q⟩⟩;have f:=LA m x O;rw[a]at f;have g:=Ya (k:=1) (1:D) 1 (by have:=p<|Z m-1;rwa[a]at this) T;rw[qq J]at g;have U:=CZ 1 T T;refine aJ Tryz.func32 ?_;refine I J<|M<|R<|rc J J t<|rg 6 J J (λh=>eV)<|λ_=>?_;refine rg 11 J J (λn=>?_)<|λn=>?_
 .have n:(Z m:G)<2:=aT n;exact absurd n O
 refine j J<|c J (λB=>?_)<|λB=>aD ?_
 .have B:(Z m:G)>9:=aT B;exact absurd B O
 exact R<|rc J J f<|rc J J U<|rc J J g<|rg 20 J J (λ_=>fX J J J J J u<|j J<|cJ J)<|λh=>eV
def aR.get_at{g:Gh}:∀{d:V C}{vs:V Value}{j:Y}{e:C},aR g d vs->d[j]? =ad e->∃v,cQ g e v
 |[],_,_,_,_,a=>by cases a
 |_::_,_,0,_,⟨v,_,_,f,_⟩,a=>by cases a;exact⟨v,f⟩
 |_::_,_,j+1,_,⟨_,_,_,_,h2⟩,a=>aR.get_at (j:=j) h2 a
def ap6{P}{n}{Q}(t p:Y){e}{xs}{d}{k}{f}{mem}{l}{m}(hl:S t f=ad (.a d))(q:d[p]? =ad (.S e xs))(s:Z xs*e.n<=140737488355328->TR P n k ⟨f,mem,l,m⟩ Q):TR P n k ⟨f,mem,l,m⟩ Q:=by intro F u g W a o;have x:bA g (.a d) (a.tmps.getD t undef):=o.eE t (.a d) zQ;let ⟨_,_,h2⟩:=x;let ⟨v,i⟩:=aR.get_at h2 q;have i:cQ g (.S e xs) v:=i;let ⟨_,_,_,_,B,_⟩:=i;exact s B F u g W a o
def t8(x:G):G:=x.tmod 8
def ap7 x: -7<=t8 x/\t8 x<=7:=by unfold t8;rw[Int.tmod_eq_emod];split<;>omega
def Ik:V (V G):=[[-2,0,1],[1,0,1],[-2,0,0,1],[1,1,1],[-1,-1,0,1],[1,0,0,0,1],[1,0,-10,0,1],[-3,1]]
def zf{l d}(g:Z l<=4)(f:∀x∈l,-128<=x/\x<=127)(i:l≠[])(e:d=l++[1])(k:bl (lx<|d.map iQ)):lW (uV d 4)/\∀x∈d,-128<=x/\x<=127:=by
 subst e;rw[ad' l ⟨g,f⟩];refine⟨lW.of ⟨g,f⟩ i k,λx a=>?_⟩;rcases aY.1 a with a|a
 .exact f x a
 .have:x=1:=by simpa using a
  subst this;decide
def ap8{i}(a:i<8):lW (uV (Ik.getD i []) 4)/\∀x∈Ik.getD i [],-128<=x/\x<=127:=by
 have:i=0\/i=1\/i=2\/i=3\/i=4\/i=5\/i=6\/i=7:=O;rcases this with rfl|rfl|rfl|rfl|rfl|rfl|rfl|rfl
 .exact zf (l:=[-2,0]) T T T J anT
 .exact zf (l:=[1,0]) T T T J anU
 .exact zf (l:=[-2,0,0]) T T T J anV
 .exact zf (l:=[1,1]) T T T J anW
 .exact zf (l:=[-1,-1,0]) T T T J anX
 .exact zf (l:=[1,0,0,0]) T T T J anY
 .exact zf (l:=[1,0,-10,0]) T T T J anZ
 .exact zf (l:=[-3]) T T T J an0
def ap9 k(d:V G)(t:0<=k/\k<=255)(hc:∀x∈d,-128<=x/\x<=127):∃m,lW m/\r z 11 [.a [.I .u8 k,.S I8 d]] (N .q m):=by
 have s:Bv ((List.take 4 d).map t8):=⟨DB,λx l=>by obtain⟨H,_,rfl⟩:=je.1 l;have:=ap7 H;omega⟩;let ⟨v,oG,zn⟩:=ap5 s;have o:=Y3 ((List.take 4 d).map t8++[1]) 4 T (λx l=>by
  rcases aY.1 l with l|l
  .exact s.sm x l
  .have:x=1:=by simpa using l
   subst this;decide)
 rw[ad' _ s]at o;have u:af ((k.tdiv 2).tmod 8)<8:=by rw[sW t.1,lj O];omega
 let ⟨B,K⟩:=ap8 u;have n:=Y3 (Ik.getD (af<|(k.tdiv 2).tmod 8) []) 4 T K;obtain⟨m,p⟩:∃m,m=if k.tmod 2=0/\v=ae then((List.take 4 d).map t8++[1]).map iQ else uV (Ik.getD (af<|(k.tdiv 2).tmod 8) []) 4:=⟨_,J⟩
 refine⟨m,?_,?_⟩
 .rw[p];split
  .rename_i h;let ⟨L,h2⟩:=zn h.2;exact lW.of s L h2
  .exact B
 clear zn B;generalize ((List.take 4 d).map t8++[1]).map iQ=b at*;refine aJ Tryz.func11<|ap6 0 1 J J λC=>?_;have C:Z d*1<=140737488355328:=C;refine I J<|R<|fM I8 [] J J (j J ?_);refine m0 ⟨[(1,.c<|.P 0 0),(3,.c<|.X 1000000)],[(1000000,.vec 53 I8<|(List.take 4 d).map t8),(0,.box 24 0 [.I .u8 k,.S I8 d])],10,[]⟩ ?_<|λf=>I J ?_;rotate_left
 .refine ay<|bf (α:=Y) (λi=>⟨[(1,.c<|.P 0 0),(3,.c<|.X 1000000),(4,y i)],[(1000000,.vec 53 I8<|(List.take i d).map t8),(0,.box 24 0 [.I .u8 k,.S I8 d])],3,[]⟩) (λi=>i<=Z d/\i<=4) (λi=>Z d-i) 0 ⟨a8 _,T⟩ aU ?_;rintro i ⟨D,Q⟩;refine M (R<|rg 13 J J (λh=>?_)<|λh=>?_)
  .have h:i<Z d:=by have h:(i:G)<(Z d:G):=aT h;omega
   refine j J<|c J (λh2=>?_)<|λh2=>?_
   .have h2:i<4:=by have h2:(i:G)<4:=aT h2;omega
    have g:=LG t8 0 d i h;rw[show E d i 0=E d (af (i:G)) I8.dA by rw[b6]]at g;refine aD<|M<|ay<|cA<|rl I8 [t8 (E d (af (i:G)) I8.dA)] J J (ra J J J J J J J J J ?_ ?_<|j J ?_) (hp:=aF)
    .show(_+1+(_+1)/4+192)*1<=_;simp only[cR,fQ];omega
    .show(_+1)*1<=_;simp only[cR,fQ];omega
    .refine bH (rt J (hp:=aF)<|aS (i+1) ⟨h,h2⟩ (O:Z d-(i+1)<Z d-i)<|Wk.trans (wk (st':=⟨[(1,.c<|.P 0 0),(3,.c<|.X 4008000),(4,y ((i+1:Y):G))],[(4008000,.vec 53 I8<|(List.take (i+1) d).map t8),(0,.box 24 0 [.I .u8 k,.S I8 d])],6,[]⟩) ⟨sR J,sR J,sE J ?_,A⟩ ⟨bE J ?_,bR J,A⟩)<|Wk.trans (gw 1000000 4008000 J J J) aU)
     .rfl
     .rw[g]
   .have h2:i=4:=by have h2:¬(i:G)<4:=a4 h2;omega
    subst h2;exact bh<|eZ f aU
  .have h:i=Z d:=by have h:¬(i:G)<(Z d:G):=a4 h;omega
   refine j J<|c J (λh2=>oZ)<|λ_=>?_;have e:List.take i d=List.take 4 d:=by rw[iO O,iO O]
   exact bh<|eZ f<|wk (bJ J) ⟨⟨_,J,nw.of_eq uI⟩,bR J,A⟩
 refine R<|rl I8 [1] J J (ra J J J J J J J J J ?_ ?_<|j J ?_)
 .show(_+1+(_+1)/4+192)*1<=_;simp only[cR,fQ];omega
 .show(_+1)*1<=_;simp only[cR,fQ];omega
 refine c8 10002000 J J J ?_;refine R<|rc J J o<|j J ?_;refine aih (λ_:Unit=>⟨[(1,.c<|.P 0 0)],[(0,.box 24 0 [.I .u8 k,.S I8 d])],20,[]⟩) (λ_=>¬(k.tmod 2=0/\v=ae)) (λ_ U=>?_)<|λf=>R<|rg 37 J J (λh=>?_)<|λh=>?_;rotate_left
 .have h:k.tmod 2=0:=eq_of_beq h;refine fX J J J J J oG<|j J ?_;cases v with
  |true=>
   rw[ao ⟨h,J⟩]at p
   exact c J (λ_=>I J<|bI<|cG<|eB J<|by rw[p])<|λh=>eV
  |false=>exact c J (λh=>eV)<|λ_=>c7<|eZ (f ()<|λh=>by cases h.2) aU
 .have h:k.tmod 2≠0:=ne_of_beq_false h;exact j J<|c J (λh=>eV)<|λ_=>c7<|eZ (f ()<|λW=>h W.1) aU
 refine R<|rl I8 [-2,0,1] J J (rl I8 [1,0,1] J J (rl I8 [-2,0,0,1] J J (rl I8 [1,1,1] J J (rl I8 [-1,-1,0,1] J J (rl I8 [1,0,0,0,1] J J (rl I8 [1,0,-10,0,1] J J (rl I8 [-3,1] J J (rl (.sl I8) Ik J J<|j J ?_))))))));rw[w U]at p;rw[<-p]at n;have F:IntKind.u8.wrap (k.tdiv 2)=k.tdiv 2:=by rw[sW t.1];simp only[IntKind.wrap,IntKind.bits,IntKind.signed];simp;omega
 rw[<-F]at n;refine R<|rc J J n (j J<|cJ J) (hp:=?_);have h0:0<=(k.tdiv 2).tmod 8:=by rw[sW t.1,lj O];omega
 simp only[Pr.an,Pr.h,num,gf,true_and,and_true];rw[F];show(2≠0/\8≠0)/\0<=(k.tdiv 2).tmod 8/\(k.tdiv 2).tmod 8<8;omega
def T0{m:V D}(g:2<=Z m)(i:Z m<=5)(x:V (G×G×G))(a:∀d∈x,lO d):r z 12 [N RW x,N .q m] (N .q<|wQ x<|Z m-2):=by
 refine aJ Tryz.func12 ?_;have h:=an2 x (Z m-2) O a;have e:((Z m:G)-2)=((Z m-2:Y):G):=O;have f:r z 28 [N RW x,y<|(Z m:G)-2] (N .q<|wQ x<|Z m-2):=by rw[e];exact h
 exact I J<|R<|rc J J f (j J<|cJ J) (hp:=aF)
end Go.El
namespace Go.El
open Go Go.Proofs Go.RowKit
noncomputable def Nt{a:Type}(n:Y)(f:Y->a):a:=Nat.rec (motive:=λ_=>a) (f 0) (λk _=>f<|Nat.add k 1) n
def T1{a:Type} n(f:Y->a):Nt n f=f n:=by cases n<;>rfl
noncomputable def T2{a:Type}(x:G)(f:G->a):a:=Int.rec (motive:=λ_=>a) (λn=>Nt n<|λm=>f<|T3 m) (λn=>f<|Int.negSucc n) x
def ap'{a:Type} x(f:G->a):T2 x f=f x:=by
 cases x with
 |ofNat n=>exact T1 n<|λm=>f<|T3 m
 |negSucc n=>rfl
noncomputable def Il{a:Type}(l:V G):(V G->a)->a:=List.rec (motive:=λ_=>(V G->a)->a) (λf=>f []) (λx _ d f=>T2 x<|λy=>d<|λt=>f<|y::t) l
def Nu{a:Type}:∀(l:V G)(f:V G->a),Il l f=f l
 |[],_=>rfl
 |x::l,f=>by show T2 x (λd=>Il l<|λt=>f<|d::t)=_;rw[ap',Nu l]
def T5:V C->ar (V G)
 |[]=>ad []
 | .I .u64 n::a=>(match T5 a with
  |some l=>ad<|n::l
  |none=>none)
 |_=>none
noncomputable def Nv(a:Ms):C->ar (V G)
 | .S (.int .u64) xs=>ad xs
 | .V (.slice none 0 0)=>ad []
 | .L id off len _=>(match bu id a with
  |some (.box _ _ cs)=>T5<|(az off cs).take len
  |some (.fz _ cs)=>T5<|(az off cs).take len
  |_=>none)
 |_=>none
def Bx(p x:G):Bool:=decide (0<=x)&&decide (x<p)
def T6(p:G)(l:V G):Bool:=l.all<|Bx p
def aea{p}(a:0<p){l}(d:T6 p l=ae):rp p l:=by
 intro i;rw[aM];cases hl:l[i]? with
 |none=>exact⟨gK _,a⟩
 |some x=>
  have:=l6.1 d x<|JT hl
  simp only[Bx,cw,decide_eq_true_eq]at this
  exact this
noncomputable def aeb:V AV->ar (V AV×AV)
 |[.c (.I .u64 a),.c<|.I .u64 n,.c<|.I .u64 p]=>(match Bx 18446744073709551616 a&&Bx 18446744073709551616 n&&decide (0<p)&&decide (p<=4294967296)with
  |true=>Nt (s' (af a) (af n)<|af p)<|λd=>ad ([cU a,cU n,cU p],cU<|T3 d)
  |false=>none)
 |_=>none
noncomputable def aec:V AV->ar (V AV×AV)
 |[.c (.I .u64 a),.c<|.I .u64 p]=>(match Bx p a&&decide (a≠0)&&decide (2<=p)&&decide (p<=2147483648)with
  |true=>Nt (iB (af a)<|af p)<|λd=>ad ([cU a,cU p],.t [(ah,[.I .u64 (T3 d)]),(ah,[.I .i64 0])])
  |false=>none)
 |_=>none
def Nw(a d:V G)(p:G):Bool:=dT (Z a) 1000&&dT (Z d) 1000&&decide (2<=p)&&decide (p<=2147483648)&&T6 p a&&T6 p d
noncomputable def aed(e:Ms):V AV->ar (V AV×AV)
 |[.a [x,.I .u64 p],.a [f,.I .u64 q]]=>(match Nv e x,Nv e f with
  |some a,ad d=>(match decide (p=q)&&Nw a d p with
   |true=>Il (cH a d p)<|λl=>ad ([aP a p,aP d p],aP l p)
   |false=>none)
  |_,_=>none)
 |_=>none
noncomputable def aee(e:Ms):V AV->ar (V AV×AV)
 |[.a [x,.I .u64 p],.a [f,.I .u64 q]]=>(match Nv e x,Nv e f with
  |some a,ad d=>(match decide (p=q)&&Nw a d p&& !a.isEmpty&& !d.isEmpty&&decide (List.getD d (Z d-1) 0≠0)with
   |true=>Il (aL a d p).1<|λl=>Il (aL a d p).2<|λg=>ad ([aP a p,aP d p],.t [(ae,[.S aq l,.I .u64 p]),(ae,[.S aq g,.I .u64 p])])
   |false=>none)
  |_,_=>none)
 |_=>none
noncomputable def T7(f:FuncId)(vs:V AV)(a:Ms):ar (V AV×AV):=
 match gG f 301 with
 |true=>aeb vs
 |false=>(match gG f 291 with
  |true=>aec vs
  |false=>(match gG f 292 with
   |true=>aed a vs
   |false=>(match gG f 264 with
    |true=>aee a vs
    |false=>none)))
def aef{a d}{p}(e:Nw a d p=ae):Z a<=1000/\Z d<=1000/\2<=p/\p<=2147483648/\rp p a/\rp p d:=by simp only[Nw,cw,decide_eq_true_eq]at e;let ⟨⟨⟨⟨⟨f,h2⟩,g⟩,i⟩,k⟩,l⟩:=e;exact⟨c9 f,c9 h2,g,i,aea O k,aea O l⟩
def aqa:∀f vs t g k,T7 f vs t=ad (g,k)->r z f g k:=by
 intro f vs t g k h;unfold T7 at h;split at h
 .rename_i i;rw[kI i];unfold aeb at h;split at h
  .rename_i a n p;split at h
   .rename_i d;simp only[cw,Bx,decide_eq_true_eq]at d;rw[T1]at h;cases h;have:=Xp (af a) (af n) (af p) O O O O;rwa[uq (by omega:0<=a),uq (by omega:0<=n),uq (by omega:0<=p)]at this
   .cases h
  .cases h
 .split at h
  .rename_i i;rw[kI i];unfold aec at h;split at h
   .rename_i a p;split at h
    .rename_i d;simp only[cw,Bx,decide_eq_true_eq]at d;rw[T1]at h;cases h;exact Xv a p O O O O
    .cases h
   .cases h
  .split at h
   .rename_i i;rw[kI i];unfold aed at h;split at h
    .rename_i x p y q;split at h
     .rename_i a b _ _;split at h
      .rename_i d;simp only[cw]at d;let ⟨l,h2,u,m,o,s⟩:=aef d.2;rw[Nu]at h;cases h;exact aiP a b p l h2 O m o s
      .cases h
     .cases h
    .cases h
   .split at h
    .rename_i i;rw[kI i];unfold aee at h;split at h
     .rename_i x p y q;split at h
      .rename_i a b _ _;split at h
       .rename_i d;simp only[cw,decide_eq_true_eq]at d;let ⟨⟨⟨⟨_,d⟩,B⟩,v⟩,hl⟩:=d;let ⟨l,h2,u,m,o,s⟩:=aef d;rw[Nu,Nu]at h;cases h;cases a with
        |nil=>simp at B
        |cons x C=>exact aiT x C b p J l h2 u m o s (by intro e;rw[e]at v;simp at v) hl
       .cases h
      .cases h
     .cases h
    .cases h
abbrev Cl:=FuncId×V AV×AV
noncomputable def Ej(l:V Cl)(f:FuncId)(vs:V AV)(a:Ms):ar (V AV×AV):=List.rec (motive:=λ_=>ar<|V AV×AV) (T7 f vs a)
 (λe _ d=>match gG f e.1 with
  |true=>(match qO (λg=>bu g a) vs e.2.1 with
   |true=>ad (e.2.1,e.2.2)
   |false=>d)
  |false=>d) l
def Nx:V Cl->Prop
 |[]=>True
 |e::a=>r z e.1 e.2.1 e.2.2/\Nx a
def Ny:∀{l:V Cl},Nx l->∀f vs d a g,Ej l f vs d=ad (a,g)->r z f a g
 |[],_,f,vs,d,a,g,k=>aqa f vs d a g k
 |e::l,hl,f,vs,d,a,g,k=>by
  have i:(match gG f e.1 with
   |true=>(match qO (λn=>bu n d) vs e.2.1 with
    |true=>ad (e.2.1,e.2.2)
    |false=>Ej l f vs d)
   |false=>Ej l f vs d)=ad (a,g):=k
  split at i
  .rename_i m;have m:=kI m;split at i
   .simp only[au,bG]at i;obtain⟨rfl,rfl⟩:=i;rw[m];exact hl.1
   .exact Ny hl.2 f vs d a g i
  .exact Ny hl.2 f vs d a g i
def gJ{l}(d:Nx l){f}{vs}{a}(e:abg a (sa z dG (Ej l) (im z dG (Ej l) 100000) f vs [] 0)=ae)(g:cF vs=[])(i:a.ak=[]):r z f vs a:=
 amh MX cj (Ny d) 100000 e g i
def Nz{l}(d:Nx l){f}{vs}{a}(e:S4 z dG (Ej l) 100000 200 200 f vs a=ae)(g:cF vs=[])(i:a.ak=[]):r z f vs a:=
 anc MX cj (Ny d) 100000 200 200 e g i
def qI(n:G):D:=Rat.ofInt n
abbrev uP(l:V D):AV:= .c<|.S .q l
abbrev zP(l:V G):AV:= .c<|.S .z l
abbrev nK(l:V (V G)):AV:= .c<|.S (.sl .z) l
abbrev pL(l:V (V G×G)):AV:= .c<|.S (.pr (.sl aq) aq) l
abbrev PQ:G:=1073741827
open Rx
def nL(a d:V D):Y->V D
 |0=>List.replicate (Z a+Z d-1) 0
 |i+1=>iX (nL a d i) (E a i 0) d i
def T8(a d:V D):∀i,Z (nL a d i)=Z a+Z d-1
 |0=>fF
 |i+1=>by rw[nL,iX,mu,T8 a d i]
def aqb a i:lx (h (i+1) a)=lx (h i a)+K (E a i 0)*X i:=ext λj=>by
 rw[eI,fZ,Dr,gC,gC,Dx,Dx];by_cases d:j=i
 .subst d;rw[ao O,w O,ao J];grind
 .rw[w d];by_cases h2:j<i
  .rw[ao O,ao h2];grind
  .rw[w O,w h2];grind
def T9{a d:V D}:∀i,i<=Z a->lx (nL a d i)=lx (h i a)*lx d
 |0,_=>by rw[nL,Ge,nF,Rx.zero_mul];exact ext λi=>GO _ i
 |i+1,e=>by rw[nL,G7 _ (by rw[T8];omega),T9 i O,aqb,Rx.add_mul,Rx.mul_assoc]
def aqc a d:eT (nL a d<|Z a)=ml a d:=ph (kO _) (tr a d) (by rw[rU,T9 _<|aW _,fR,px])
def Ua{n m t u s}{a d}(l:Pz n t a)(o:Pz m u d)(L:n<=16)(P:m<=400)(p:t+u+4<32*s)(Q:s<=100000000):r z 67 [N .q a,N .q d] (N .q<|ml a d):=by
 refine aJ Tryz.func67 ?_;have U:=l.len;have W:=o.len;refine I J<|M<|R<|rg 11 J J (λh=>?_)<|λh=>?_
 .have h:a=[]:=by have h:(a.length:G)=0:=eq_of_beq h;exact fE O
  subst h;rw[YW];exact j J<|c J (λ_=>I J<|bI<|cG<|g7 cj J<|bm.nil .q)<|λh=>eV
 refine j J<|c J (λk=>?_)<|λk=>aD ?_
 .have h:d=[]:=by have h:(d.length:G)=0:=eq_of_beq k;exact fE O
  subst h;rw[YX];exact I J<|bI<|cG<|g7 cj J<|bm.nil .q
 have w:0<a.length:=by have h:(((a.length:Y):G)==0)=ah:=h;rw[beq_eq_false_iff_ne]at h;omega
 have E:0<d.length:=by have h:(((d.length:Y):G)==0)=ah:=k;rw[beq_eq_false_iff_ne]at h;omega
 clear h k;have x:nC z 118 [y ((a.length:G)+(d.length:G)-1)] 44 .q (List.replicate (a.length+d.length-1) 0):=by rw[(O:(a.length:G)+(d.length:G)-1=((a.length+d.length-1:Y):G))];exact Ld _ O
 refine R<|Ab J J x (j J<|M<|I J ?_) (hp:=aF);refine ay<|bf (α:=Y) (λi=>⟨[(1,N .q d),(5,.c<|.X 2006000),(23,N .q a),(24,y a.length),(25,y i)],[(2006000,.vec 44 .q<|nL a d i)],4,[]⟩) (λi=>i<=a.length) (λi=>a.length-i) 0 (a8 _) (wk (bJ J) ⟨bE J J,A⟩) ?_;intro i B;have C:=T8 a d i;have F:∀e,QS s ((nL a d i).getD e 0):=λe=>by
  have H:Ht (2^(t+u+4)) (lx<|nL a d i):=by rw[T9 i B,<-Hd];let ⟨D,d1,d2,d3⟩:=l.ht;refine Ht.mul (n:=2^4) ⟨D,d1,d2,d3.take i⟩ o.ht ?_ T;have:=Ln<|a.take i;rw[fQ]at this;omega
  exact H.qs (mB p) e
 refine I J<|M<|c J (λh=>?_)<|λh=>?_
 .have h:i<a.length:=by have h:(i:G)<(a.length:G):=aT h;omega
  have f:=Le (s:=s) O (nL a d i) (a.getD i 0) d i O O F (l.qs O i)<|λe=>o.qs O e;have K:((i:G)).toNat=i:=b6 i;rw[show iX (nL a d i) (a.getD i 0) d i=nL a d (i+1)from J]at f;have g:sV z 119 [.c (.X 0),aQ<|a.getD ((i:G)).toNat 0,N .q d,y i] 44 .q (nL a d i) (.t []) (nL a d<|i+1):=by rw[K];exact f
  refine aD<|M<|ay<|I J (cA<|x9 2006000 J g J J<|j J<|bH<|rt J (hp:=aF)<|aS (i+1) h (O:a.length-(i+1)<a.length-i)<|wk ⟨sR J,sR J,sR J,sR J,sE J ?_,A⟩ ⟨bR J,A⟩) (hp:=aF);exact iz (O:(i:G)+1=((i+1:Y):G))
 .have h:i=a.length:=by have h:¬(i:G)<(a.length:G):=a4 h;omega
  subst h;have v:=GM (nL a d a.length) O;rw[aqc]at v;exact bh<|aI<|c8 2006000 J J J<|bw J J v J<|cJ J
def aqd:r z 74 [N .q [],N .q []] (N .q []):=gJ (l:=[]) A dN J J
def aqe a d:eT (wF a (-1) d)=nG a d:=ph (kO _) (kO _) (by rw[rU,ajZ,Rp,QR,oh,Rx.neg_mul,Rx.one_mul,sub_def])
def aqf{s}(e:1<=s)(f:s<=1000000000) a d(g:Z a<=1000)(k:Z d<=1000)(l:∀i,QS s (E a i 0))(m:∀i,QS s (E d i 0)):r z 74 [N .q a,N .q d] (N .q<|nG a d):=by
 by_cases h:0<max (Z a) (Z d)
 .rw[<-aqe];exact ajE e f a d g k h l m
 .have n:a=[]:=fE O;have o:d=[]:=fE O;subst n o;exact aqd
def Pz.aeg{n m t u s}{a d}(e:Pz n t a)(f:Pz m u d)(k:n<=500)(l:m<=500)(g:t<32*s)(i:u<32*s)(o:s<=100000000):r z 74 [N .q a,N .q d] (N .q<|nG a d):=
 aqf O O a d (bQ e.len O) (bQ f.len O) (e.qs g) (f.qs i)
def aeh d a:eT (qC d a)=gW d a:=ph (kO _) (kO _) (by rw[rU,YB,Dz])
def Pz.aei{n t s}{a}{c}(d:Pz n t a)(e:QS s c)(g:n<=500)(f:t<32*s)(i:s<=100000000):r z 75 [aQ c,N .q a] (N .q<|gW c a):=by rw[<-aeh];exact QK O O c a (bQ d.len O) e<|d.qs f
def aej{s}(g:1<=s)(i:s<=100000000){a e}(k:e≠[])(f:wH s a e):r z 65 [N .q a,N .q e] (.t [(ah,[.S .q (dO a e)]),(ah,[.S .q (cN a e)]),(ah,[.I .i64 0])]):=by
 have l:=cv.2 k;have m:=f.la;have n:=f.lb;by_cases d:Z a<Z e
 .rw[cN,dO,ao d,ao d];exact ajI a e d O
 .rw[cN,dO,w d,w d];exact ajH g i a e (Z e-1) (Z a+1-Z e) O O O O f.bn f.qb f.qS
def Pz.NA{n m t u d s}{a e}(g:Pz n t a)(i:Pz m u e)(f:e≠[])(k:Z a+1-Z e<=d)(l:n<=500)(o:m<=500)(p:t+u+(u+1)*d<32*s)(v:s<=100000000):r z 65 [N .q a,N .q e] (.t [(ah,[.S .q (dO a e)]),(ah,[.S .q (cN a e)]),(ah,[.I .i64 0])]):=
 aej O v f (g.YY i f k l o p)
def Pz.aek{n m t u d s}{a e}(f:Pz n t a)(g:Pz m u e)(i:e≠[])(k:Z a+1-Z e<=d)(l:n<=500)(o:m<=500)(p:t+u+(u+1)*d<32*s)(v:s<=100000000):r z 17 [N .q a,N .q e] (N .q<|cN a e):=by refine aJ Tryz.func17 ?_;exact I J<|R<|rc J J (f.NA g i k l o p v)<|j J<|I J<|cJ J
def fm(a d m:V D):V D:=cN (ml a d) m
def Pz.aqg{n m k t u v d s}{a f e}(g:Pz n t a)(i:Pz m u f)(p:Pz k v e)(x:e≠[])(l:n<=16)(B:m<=400)(L:k<=400)(P:Z a+Z f-1+1-Z e<=d)(F:t+u+4+v+(v+1)*d<32*s)(o:s<=100000000):r z 19 [N .q a,N .q f,N .q e] (N .q<|fm a f e):=by refine aJ Tryz.func19 ?_;have C:=g.mul i l;have:=Rq g.can i.can;have H:=C.aek p x (d:=d) O O O F o;exact I J<|R<|rc J J (Ua g i l B O o)<|rc J J H<|j J<|cJ J
def Pz.fm{n m k t u v d}{a f e}(g:Pz n t a)(i:Pz m u f)(l:Pz k v e)(o:e≠[])(p:n<=16)(q:Z a+Z f-1+1-Z e<=d):Pz k (t+u+4+(v+1)*d) (El.fm a f e):=by have:=Rq g.can i.can;exact(g.mul i p).rem l o O
def Ek{a b d}(e:bF d)(f:d≠[]):lx d∣lx (fm a b d)-lx a*lx b:=by rw[<-px];exact LF e f
end Go.El
namespace Go.El
open Go Go.Proofs Go.RowKit
def ael{g:Gh}{d:Y->Y}:∀{e:C}{v:Value},cQ ⟨g.H,λf=>g.γ<|d f⟩ e v->cQ g (jy d e) v
 | .any,_,a=>a
 | .B _,_,a=>a
 | .I _ _,_,a=>a
 | .V _,_,a=>a
 | .S _ _,_,a=>a
 | .P _ _,_,a=>a
 | .X _,_,a=>a
 | .Y _ _ _ _,_,a=>a
 | .E _ _ _,_,a=>a
 | .M _,_,a=>a
 | .L _ _ _ (ad _),_,a=>a
 | .L _ _ _ none,_,a=>a
 | .W _ _ _,_,a=>a
def Em{g:Gh}{d:Y->Y}:∀{f:V C}{vs:V Value},aR ⟨g.H,λi=>g.γ<|d i⟩ f vs->aR g (f.map<|jy d) vs
 |[],_,a=>a
 |_::_,_,a=>by let ⟨v,k,e,l,h2⟩:=a;exact⟨v,k,e,ael l,Em h2⟩
def Ub{g:Gh}{i:Y->Y}:∀{k:V (Bool×V C)}{vs:V Value},fa ⟨g.H,λl=>g.γ<|i l⟩ k vs->fa g (k.map λs=>(s.1,s.2.map<|jy i)) vs
 |[],_,d=>d
 | (m,f)::_,_,d=>by
  let ⟨v,n,e,a,h2⟩:=d;refine⟨v,n,e,?_,Ub h2⟩;match m,f,a with
  |true,f,a=>let ⟨vs,e,d⟩:=a;exact⟨vs,e,Em d⟩
  |false,[f],a=>exact ael a
  |false,[],a=>exact a.elim
  |false,_::_::_,a=>exact a.elim
def aem{g:Gh}{a:Y->Y}{k l:Bool}:∀{n:Y}{xs:V (V C×V C)}{m:V MapEntry},g5 ⟨g.H,λo=>g.γ<|a o⟩ k l n xs m->g5 g k l n (xs.map λx=>(x.1.map<|jy a,x.2.map<|jy a)) m
 |_,[],_,d=>d
 |_,_::_,_,d=>by let ⟨e,p,q,h2,⟨s,t,f⟩,⟨vs,u,i⟩,v⟩:=d;exact⟨e,p,q,h2,⟨s,t,Em f⟩,⟨vs,u,Em i⟩,aem v⟩
def aqh{u:Y->Prop}{g}{W}{p:Y->Y}{o}{q}(i:fB u ⟨g.H,λo=>g.γ<|p o⟩ W o q):fB u g W (p o) (s8 p q):=by
 cases q with
 |box E B cs=>
  let ⟨k,vs,rest,a,d,e,l,s,x⟩:=i
  exact⟨k,vs,rest,a,d,Em e,l,s,x⟩
 |vec E T C=>
  rcases i with⟨a,d⟩|⟨k,t,vs,a,d⟩
  .exact .inl ⟨a,d⟩
  .exact .inr ⟨k,t,vs,a,d⟩
 |gM f first v=>
  let ⟨us,ws,a,d,e⟩:=i
  exact⟨us,ws,a,Ub d,Ub e⟩
 |fz E cs=>
  let ⟨k,vs,rest,a,d,e,l,s⟩:=i
  exact⟨k,vs,rest,a,d,Em e,l,s⟩
 |mp F K xs=>
  let ⟨k,es,a,d,e,l⟩:=i
  exact⟨k,es,a,by simpa using d,aem e,l⟩
 |it m n seen=>exact i
def aqi(a:Y->Y):∀d:C,(jy a d).ak=d.ak.map a
 | .any=>rfl
 | .B _=>rfl
 | .I _ _=>rfl
 | .V _=>rfl
 | .S _ _=>rfl
 | .P _ _=>rfl
 | .X _=>rfl
 | .Y _ _ _ _=>rfl
 | .E _ _ _=>rfl
 | .M _=>rfl
 | .L _ _ _ _=>rfl
 | .W _ _ _=>rfl
def Im(d:Y->Y):∀a:V C,bP (a.map<|jy d)=(bP a).map d
 |[]=>rfl
 |e::a=>by simp[bP,aqi,Im d a]
def aen(d:Y->Y):∀a:V (Bool×V C),eo (a.map λs=>(s.1,s.2.map<|jy d))=(eo a).map d
 |[]=>rfl
 |e::a=>by simp[eo,Im,aen d a]
def aeo(a:Y->Y):∀xs:V (V C×V C),kA (xs.map λx=>(x.1.map<|jy a,x.2.map<|jy a))=(kA xs).map a
 |[]=>rfl
 |d::cs=>by simp[kA,Im,aeo a cs]
def aqj(d:Y->Y) e:(s8 d e).ak=e.ak.map d:=by
 cases e with
 |box E z cs=>exact Im d cs
 |vec E T xs=>rfl
 |gM f a e=>simp[s8,aE.ak,aen]
 |fz E cs=>exact Im d cs
 |mp g i xs=>exact aeo d xs
 |it m n seen=>rfl
def xm(a:Y->Y):V (Y×aE)->V (Y×aE)
 |[]=>[]
 | (id,d)::e=>(a id,s8 a d)::xm a e
def aep{g:Y->Y}{k:Y}{l:aE}:∀{fm:V (Y×aE)},S k (xm g fm)=ad l->∃d f,d∈fm.map (·.1)/\g d=k/\(d,f)∈fm/\l=s8 g f
 |[],a=>by cases a
 | (i,x)::fm,a=>by
  simp only[xm,S]at a;split at a
  .rename_i e;cases a;exact⟨i,x,ax,e,ax,J⟩
  .obtain⟨d,f,m,n,o,p⟩:=aep a;exact⟨d,f,by simp at m;simp[m],n,by simp[o],p⟩
def aeq{fm}(a:(fm.map (·.1)).Nodup){f}{g:aE}(d:(f,g)∈fm):S f fm=ad g:=by
 induction fm with
 |nil=>cases d
 |cons p r i=>
  obtain⟨j,x⟩:=p
  simp only[gR,zp]at a
  simp only[S]
  rcases bX.1 d with e|d
  .cases e;simp
  .have:j≠f:=λe=>a.1 (by subst e;exact je.2 ⟨_,d,J⟩)
   rw[w this];exact i a.2 d
def En{f:Y->Y}{g:Y}{k:aE}:∀{fm:V (Y×aE)},(∀i∈fm.map (·.1),∀m∈fm.map (·.1),f i=f m->i=m)->S g fm=ad k->S (f g) (xm f fm)=ad (s8 f k)
 |[],_,d=>by cases d
 | (i,x)::fm,l,d=>by
  simp only[xm,S]at d⊢;split at d
  .rename_i e;cases d;subst e;simp
  .rename_i e;have n:g∈fm.map (·.1):=by
    clear l e;induction fm with
    |nil=>cases d
    |cons p r o=>
     simp only[S]at d
     split at d
     .rename_i e;subst e;simp
     .simp[o d]
   rw[w (λq=>e<|l i ax g (by simp at n;simp[n]) q)];exact En (λa s k t=>l a (jF _ s) k<|jF _ t) d
def oF(a:V Y):Y×aE:=(0,.gM 0 [] (a.map λi=>(ah,[.X i])))
def aer(g:Gh):∀a:V Y,fa g (a.map λi=>(ah,[.X i])) (a.map g.γ)
 |[]=>rfl
 |i::a=>⟨_,_,J,J,aer g a⟩
def aes{g:Gh}:∀{a:V Y}{f:V Value},fa g (a.map λi=>(ah,[.X i])) f->f=a.map g.γ
 |[],_,d=>d
 |i::a,_,d=>by obtain⟨v,l,rfl,e,k⟩:=d;have e:v=g.γ i:=e;simp[e,aes k]
def aet:∀a:V Y,eo (a.map λi=>(ah,[.X i]))=a
 |[]=>rfl
 |i::a=>by simp[eo,bP,C.ak,aet a]
section
variable{P:Program}{tt:TT}
def aqk(d:b8 P tt=ae){n}{e}{i}{k}{l}(m:kF tt e k=ad l)(f:i.results=k.toArray:=by rfl):eR n .normal e (S5 P i l e.mem):=
 λF o g W a h=>abW d m f F o g W a h
def aeu(ρ:Y->Y){n}{f}{fn}{df}{vs vs0}{k}{aV}{fm0 fm0' fm jw}(hf:P.funcs[f]? =ad fn)(hb:fn.body=ad df)(hN:fn.ntmps=n)
  (L:TR P n df ⟨dr 0 vs0,oF (fm0.map (·.1))::fm0,1,[]⟩ (S5 P fn aV<|oF (fm0.map (·.1))::fm0'))
  (uv:vs=vs0.map (KG ρ)) (O4:fm=xm ρ fm0) (aql:jw=xm ρ fm0')
  (hd:∀d∈fm0.map (·.1),(1<=d/\d<1000000)/\ρ d<k) (U:∀i∈fm0.map (·.1),∀Q∈fm0.map (·.1),ρ i=ρ Q->i=Q)
  (x7:∀d∈cF vs0,d∈fm0.map (·.1)) (mc:∀d B,(d,B)∈fm0->∀Q∈B.ak,Q∈fm0.map (·.1)) (yh:fm0'.map (·.1)=fm0.map (·.1)) (aev:∀d B,(d,B)∈fm0'->∀Q∈B.ak,Q∈fm0.map (·.1))
  (x8:aV.ak=[]) (js:(fm0.map (·.1)).Nodup:=by decide) (hle:dT (Z vs0) n=ae:=by rfl) (sF:(fn.name != "runtime.NumGoroutine")=ae:=by rfl):CX P f vs fm k aV jw k:=by
 subst uv O4 aql
 refine⟨zS,aW _,?_⟩
 intro F g W A hn mb D
 have aqm:eQ g (vs0.map<|KG ρ) A:=aaH _ A 0 A mb (λQ hj=>ax) (λt v ht=>D.eE t v<|by simp[St.kn,ht])
 have hle:=c9 hle
 have mb:Z A=Z vs0:=by simpa using mb
 let z:Y->Value:=λd=>g.γ<|ρ d
 let g0:Gh:=⟨g.H,λd=>if d=0 then .func (.func 0) #[] ((fm0.map (·.1)).map z).toArray else z d⟩
 have NB:g0.γ 0= .func (.func 0) #[] ((fm0.map (·.1)).map z).toArray:=by simp[g0]
 have Eo:∀d,d≠0->g0.γ d=z d:=λd L=>by simp[g0,L]
 have R:∀d∈fm0.map (·.1),d≠0:=λd L=>by have:=(hd d L).1.1;omega
 have y7:fP (λd=>d≠0) ⟨g.H,z⟩ g0:=⟨cD.refl _,λd L=>Eo d L⟩
 have AE:eQ g0 vs0 A:=by
  have key:∀(xs:V AV)(A:V Value),eQ g (xs.map<|KG ρ) A->(∀d∈cF xs,d≠0)->eQ g0 xs A:=by
   intro xs;induction xs with
   |nil=>intro A L _;exact L
   |cons x xs ih=>
    rintro A ⟨v,aV,rfl,O,h2⟩ hm
    exact⟨v,aV,J,bA.mono y7 (λd K=>hm d<|dY _ K)<|aiK O,ih aV h2<|λd K=>hm d<|fU _ K⟩
  exact key vs0 A aqm<|λd K=>R d<|x7 d K
 have Uc:∀{fm:V (Y×aE)}{d:Y}{B:aE},S d fm=ad B->d∈fm.map (·.1):=by
  intro fm;induction fm with
  |nil=>intro d B L;cases L
  |cons p l ih=>
   intro d B L
   simp only[S]at L
   split at L
   .rename_i e;subst e;simp
   .have:=ih L;simp at this;simp[this]
 have vB:∀{fm:V (Y×aE)}{d:Y}{B:aE},S d fm=ad B->(d,B)∈fm:=by
  intro fm;induction fm with
  |nil=>intro d B L;cases L
  |cons p l ih=>
   intro d B L
   simp only[S]at L
   split at L
   .rename_i e;cases L;subst e;simp
   .exact jF _<|ih L
 have Jv:∀d B,S d fm0=ad B->fB F.N g W (ρ d) (s8 ρ B):=λd B L=>D.cL (ρ d) (s8 ρ B) (by simp[St.kn,En U L])
 let F0:eK:={w0:=W,H0:=g.H,n:=n,own:=λx=>∃d B,S d fm0=ad B/\El.cz (z d)=ad x,k0:=1,γ0:=g0.γ}
 have HR:∀x,F0.own x->F.N x/\x<W.heap.size:=λx ⟨d,B,O,h2⟩=>(Jv d B O).block h2
 have oa:∀{X:V (Y×aE)}{d:Y}{B:aE}{sl:V (Y×AV)}{nx:Y},St.kn ⟨sl,oF (fm0.map (·.1))::X,nx,[]⟩ (.m d)=ad (.b B)->(d=0/\B=(oF<|fm0.map (·.1)).2)\/(d≠0/\S d X=ad B):=by
  intro X d B sl nx e;have e1:S d (oF (fm0.map (·.1))::X)=ad B:=by
   have e0:(S d<|oF (fm0.map (·.1))::X).map Info.b=ad (.b B):=e;cases L:S d (oF (fm0.map (·.1))::X)with
   |none=>rw[L]at e0;cases e0
   |some y=>rw[L]at e0;cases e0;rfl
  change (if 0=d then ad (oF<|fm0.map (·.1)).2 else S d X)=ad B at e1;by_cases df:0=d
  .rw[ao df]at e1;cases e1;exact .inl ⟨df.symm,J⟩
  .rw[w df]at e1;exact .inr ⟨λL=>df L.symm,e1⟩
 have pq:∀t v,S t (dr 0 vs0)=ad v->bA g0 v ((A.toArray++Array.replicate (fn.ntmps-A.toArray.size) undef).getD t undef)/\∀d∈v.ak,d∈cF vs0:=by
  intro t v ht;obtain⟨_,u,hu,hr,h6⟩:=mW vs0 A 0 AE t v ht;have vz:A[t]? =ad u:=vN;have gN:t<Z A:=(rj.1 vz).1;have:(A.toArray++Array.replicate (fn.ntmps-A.toArray.size) undef).getD t undef=u:=by rw[nQ,xN zT];simp[vz]
  rw[this];exact⟨hr,h6⟩
 refine calls_of_wp hf hb ?_
 refine wp_mono (L F0 ⟨J,aW _,J,J⟩ g0 W _ ⟨?_,J,?_,?_,?_,?_,?_,D.sub,⟨J,J,J,aW _,λ_ _ _=>rfl⟩,cD.refl _,λ_ _ _ _=>rfl,λd K=>⟨?_,J⟩⟩)<|λe a W' hq=>?_
 .simp[hN,F0];omega
 .intro t v ht;simp only[St.kn,cu]at ht;obtain⟨x,hx,G⟩:=ht;cases G;exact(pq t v hx).1
 .intro d B e;rcases oa e with⟨rfl,rfl⟩|⟨hn,hl⟩
  .refine⟨[],_,NB,J,?_⟩;have:=aer g0<|fm0.map (·.1);have e1:(fm0.map (·.1)).map g0.γ=(fm0.map (·.1)).map z:=Qx λi hi=>Eo i (R i hi)
   rwa[e1]at this
  .refine fB.xY (aiL<|Jv d B hl) (λkk E=> .inr ⟨d,B,hl,E⟩) (Eo d hn) J ⟨cD.refl _,λQ hj=>Eo Q<|R Q<|mc d B (vB hl) Q hj⟩
 .intro d nz B b' kk e e' E xJ;rcases oa e with⟨rfl,rfl⟩|⟨hn,hl⟩
  .rw[NB]at E;cases E
  .rcases oa e' with⟨rfl,rfl⟩|⟨HY,Ow⟩
   .rw[NB]at xJ;cases xJ
   .rw[Eo _ hn]at E;rw[Eo _ HY]at xJ;exact U d (Uc hl) nz (Uc Ow)<|D.inj _ _ _ _ kk (by simp[St.kn,En U hl];rfl) (by simp[St.kn,En U Ow];rfl) E xJ
 .intro key x e d K;show d<1000000*1;have E:∀d∈fm0.map (·.1),d<1000000*1:=λd L=>by have:=(hd d L).1.2;omega
  cases key with
  |m Q=>
   cases x with
   |v v=>simp only[St.kn,cu]at e;obtain⟨_,_,G⟩:=e;cases G
   |b B=>
    rcases oa e with⟨rfl,rfl⟩|⟨hn,hl⟩
    .have K:d∈eo []++eo ((fm0.map (·.1)).map λi=>(ah,[C.X i])):=K;rw[aet]at K;exact E d (by simpa[eo]using K)
    .exact E d<|mc Q B (vB hl) d K
  |s t=>
   simp only[St.kn,cu]at e
   obtain⟨y,hy,G⟩:=e
   subst G
   exact E d<|x7 d<|(pq t y hy).2 d K
 .intro d x e;show d<1000000*1;cases x with
  |v v=>simp only[St.kn,cu]at e;obtain⟨_,_,G⟩:=e;cases G
  |b B=>
   rcases oa e with⟨rfl,rfl⟩|⟨hn,hl⟩
   .decide
   .have:=(hd d<|Uc hl).1.2;omega
 .have K:d<1:=K;show d<1000000*1;omega
 refine ang ?_ hq
 rintro e W' ⟨v,g1,rfl,hv,O⟩
 have hγ:∀d∈fm0.map (·.1),g1.γ d=z d:=by
  have e0:g1.γ 0=g0.γ 0:=(O.fS 0 (T:(0:Y)<1)).2;obtain⟨us0,ws,e1,e2,e3⟩:=O.cL 0 (oF<|fm0.map (·.1)).2 (by simp[St.kn,oF,S]);rw[e0,NB]at e1;have e4:=aes e3;have e5:((fm0.map (·.1)).map z)=(fm0.map (·.1)).map g1.γ:=by rw[<-e4];injection e1 with _ _ e6;have:=a6 Array.toList e6;simpa using this
  intro d K;exact(List.map_inj_left.1 e5 d K).symm
 let g2:Gh:=⟨g1.H,g.γ⟩
 have CK:∀d B,(d,B)∈fm0'->S d fm0'=ad B:=λd B L=>aeq (by rw[yh];exact js) L
 have I:∀d B,(d,B)∈fm0'->d∈fm0.map (·.1):=λd B L=>by rw[<-yh];exact je.2 ⟨_,L,J⟩
 have xZ:∀d B,(d,B)∈fm0'->fB F0.N g1 W' d B:=λd B L=>O.cL d B (by have fe:d≠0:=R d<|I d B L;simp[St.kn,oF,S,Ne.symm fe,CK d B L])
 have hex:∀d∈fm0.map (·.1),∃B,S d fm0=ad B:=λd K=>by obtain⟨p,hp,rfl⟩:=je.1 K;exact⟨p.2,aeq js hp⟩
 have OZ:∀x,F0.N x->F.N x:=λx hx=>by
  rcases hx with hx|hx
  .exact .inl<|bQ D.below.size hx
  .exact(HR x hx).1
 have hM:∀{Q B},(St.kn ⟨[(0,aV)],xm ρ fm0',0,[]⟩) (.m Q)=ad (.b B)->∃d M,ρ d=Q/\(d,M)∈fm0'/\B=s8 ρ M:=λ{Q B} e=>by simp only[St.kn,cu]at e;obtain⟨y,hy,G⟩:=e;cases G;obtain⟨d,M,_,h2,h3,h4⟩:=aep hy;exact⟨d,M,h2,h3,h4⟩
 have hS:∀{t u},(St.kn ⟨[(0,aV)],xm ρ fm0',0,[]⟩) (.s t)=ad (.v u)->t=0/\u=aV:=λ{t u} e=>by
  simp only[St.kn,S,cu]at e;obtain⟨x,hx,G⟩:=e;cases G;split at hx
  .rename_i e;cases hx;exact⟨e.symm,J⟩
  .cases hx
 refine⟨v,g2,J,J,D.defers,?_,?_,?_,?_,?_,O.sub,?_,D.le.trans O.le,?_,?_⟩
 .intro t u e;obtain⟨rfl,rfl⟩:=hS e;have:=bA.iy hv x8 (cD.refl _) g2.γ;simpa[me,g2]using this
 .intro Q B e;obtain⟨d,M,rfl,h3,rfl⟩:=hM e;refine aqh (g:=g2) ?_;refine fB.xY (xZ d M h3) (λkk E=>OZ kk ?_) (hγ d<|I d M h3).symm J ⟨cD.refl _,λQ hj=>(hγ Q<|aev d M h3 Q hj).symm⟩;exact((xZ d M h3).block E).1
 .intro Q j' B b' kk e e' E xJ;obtain⟨d,M,rfl,h3,rfl⟩:=hM e;obtain⟨nz,b0',rfl,z6,rfl⟩:=hM e';obtain⟨x,hx⟩:=hex d<|I d M h3;obtain⟨x',O0⟩:=hex nz<|I nz b0' z6;exact D.inj _ _ _ _ kk (by simp[St.kn,En U hx];rfl) (by simp[St.kn,En U O0];rfl) E xJ
 .intro key x e d K;cases key with
  |s t=>
   cases x with
   |v u=>obtain⟨rfl,rfl⟩:=hS e;exact absurd K (by simp[Info.ak,x8])
   |b b'=>simp only[St.kn,cu]at e;obtain⟨_,_,G⟩:=e;cases G
  |m Q=>
   cases x with
   |v v'=>simp only[St.kn,cu]at e;obtain⟨_,_,G⟩:=e;cases G
   |b b'=>
    obtain⟨i,M,rfl,h3,rfl⟩:=hM e
    have K:d∈(s8 ρ M).ak:=K
    rw[aqj]at K
    obtain⟨q,hq,rfl⟩:=je.1 K
    exact(hd q<|aev i M h3 q hq).2
 .intro Q x e;cases x with
  |v v'=>simp only[St.kn,cu]at e;obtain⟨_,_,G⟩:=e;cases G
  |b b'=>
   obtain⟨i,M,rfl,h3,rfl⟩:=hM e
   exact(hd i<|I i M h3).2
 .refine⟨O.below.os.trans D.below.os,O.below.tape.trans D.below.tape,O.below.output.trans D.below.output,bQ D.below.size O.below.size,λkk E jY=>?_⟩;rw[O.below.block kk (hP E D.below.size) (λho=>?_)]
  .exact D.below.block kk E jY
  .rcases(HR kk ho).1 with h2|h2
   .exact absurd E<|Nat.not_lt.2 h2
   .exact jY h2
 .intro B o kZ jY;show g1.H B o=F.H0 B o;rw[O.fresh B o (hP kZ D.below.size) (λho=>?_)]
  .exact D.fresh B o kZ jY
  .rcases(HR B ho).1 with h2|h2
   .exact absurd kZ<|Nat.not_lt.2 h2
   .exact jY h2
 .intro d K;exact⟨(D.fS d K).1,(D.fS d K).2⟩
def Io:V (Y×aE)->V (Y×aE)->Prop
 |[],_=>True
 | (id,a)::d,mem=>S id mem=ad a/\Io d mem
def Io.get{mem:V (Y×aE)}:∀{fm:V (Y×aE)},Io fm mem->∀d f,S d fm=ad f->S d mem=ad f
 |[],_,_,_,a=>by cases a
 | (i,x)::fm,g,d,f,a=>by
  simp only[S]at a;split at a
  .rename_i e;cases a;subst e;exact g.1
  .exact Io.get g.2 d f a
def aqo{d}{i}{q}{fm a mem}{k u l}{B n}(F:a.map (·.1)=fm.map (·.1)):
  St.kn ⟨(d,i)::q,a++mem,u,B⟩=bq (St.kn ⟨q,mem,l,n⟩) ((.s d,ad<|.v i)::(nW a fm++jZ k a)):=by
 have f:∀(fm a:V (Y×aE)),a.map (·.1)=fm.map (·.1)->∀j,(S j a).isSome=(S j fm).isSome:=by
  intro fm;induction fm with
  |nil=>
   intro a h j;have:a=[]:=by simpa using h
   subst this;rfl
  |cons p i C=>
   intro a h j
   cases a with
   |nil=>cases h
   |cons K H=>
    simp only[gR,IN]at h
    simp only[S,h.1]
    split
    .rfl
    .exact C H h.2 j
 funext key
 cases key with
 |s t=>
  by_cases e:d=t
  .subst e;simp[St.kn,S,bq,aC]
  .simp[St.kn,S,bq,aC,e,sT,Cz,xU]
 |m j=>
  have g:=f fm a F j
  simp only[St.kn,bq,aC,reduceCtorEq,bL,sT,Fu,xV,CH]
  cases h2:S j a with
  |none=>
   rw[h2]at g
   have o:(S j fm).isSome=ah:=g.symm
   simp[o]
  |some x=>
   rw[h2]at g
   have o:(S j fm).isSome=ae:=g.symm
   simp[o]
def aqp{a}{f}{args:V Operand}{e}{is}:∀d∈cC a f++args.flatMap (cC a)++ff a e++ff a is,a.kn d.1=ad d.2:=by
 intro d h;simp only[aY]at h;rcases h with((h|h)|h)|h
 .exact dV a f d h
 .obtain⟨x,_,h⟩:=iw.1 h;exact dV a x d h
 .exact jV a e d h
 .exact jV a is d h
end
section
variable{n:Y}{sl cc:V (Y×AV)}{mem b9:V (Y×aE)}{nx n0 cx i i':Y}{gd cr:V (Y×Bool)}{ops:Array Oper}{draw:Bool}{os dH:V Oper}{ks dx:V Ks}{p:Pr}{R:St->Prop}{d:Y}{ty:TypeId}{pos:String}{ig:Array Edge}
def rcX{cf}{args}{s}{f}{vs}{u}{fm l}{v}(o:runs dG n nx draw ops.toList os i ⟨sl,mem,n0,gd⟩ .t ks=(⟨ad d,.call ⟨.value cf,args,s⟩,ty,pos,ig,none⟩::dH,i',⟨cc,b9,cx,cr⟩,p,dx))
  (ht:uo ⟨cc,b9,cx,cr⟩ cf args.toList=ad (f,vs,u)) (hf:CX z f vs fm (1000000*nx+1000*i') v l (1000000*nx+1000*i')) (x:Io fm b9) (hs:l.map (·.1)=fm.map (·.1))
  (hk:∀k,RG z n ops draw nx (i'+1) dH ⟨(d,v)::cc,l++b9,cx,cr⟩ (dx++[k]) R)
  (B:vM (1000000*nx+1000*i') (cF vs)=ae:=by rfl) (H:ug (1000000*nx+1000*i') fm=ae:=by rfl) (L:xW (1000000*nx+1000*i') fm v.ak=ae:=by rfl) (P:xX (1000000*nx+1000*i') fm l=ae:=by rfl)
  (hp:p:=by exact Oy) (U:Nat.blt d n=ae:=by rfl):RG z n ops draw nx i os ⟨sl,mem,n0,gd⟩ ks R:=
 jX cj o hp (abV (k:=(_,_)) (λc=>by
  have j:=VO c J J (c9 U) J ht hf B H L P x.get;intro F C Q m w g W a K b q X y;refine j F C Q m w g W a K (λA e=>?_) q X<|λD E G I=>y D E G<|I.weaken<|λA e=>?_
  .omega
  .rcases e with e|e
   .exact .inl e
   .omega) aqp (aqo hs) (λ_ o=>o) (λ_ o=>o) (hk _))
end
open Rx
def sf(a d:V D):D:=if cN a d=[]then 1 else(E (cN a d) (Z (cN a d)-1) 0)⁻¹
def tP(a d u n:V D):V D:=gW (sf a d)<|nG u<|ml (dO a d) n
def kV:Y->V D->V D->V D->V D->V D×V D
 |0,_,_,u,n=>(u,n)
 |k+1,a,d,u,n=>if d=[]then(u,n)else kV k d (da<|cN a d) n (tP a d u n)
def xn(s:Y):Y->V D->V D->V D->V D->Prop
 |0,_,d,_,_=>d=[]
 |k+1,a,d,u,n=>d=[]\/(wH s a d/\r z 67 [N .q (dO a d),N .q n] (N .q<|ml (dO a d) n)/\r z 74 [N .q u,N .q<|ml (dO a d) n] (N .q<|nG u<|ml (dO a d) n)/\
   r z 75 [aQ (sf a d),N .q<|nG u<|ml (dO a d) n] (N .q<|tP a d u n)/\xn s k d (da<|cN a d) n (tP a d u n))
abbrev jq(x:V D):aE:= .box 29 0 [.S .q x]
def aqq{q u n p d s:V D}{v}(g:r z 67 [N .q q,N .q n] (N .q p))(l:r z 74 [N .q u,N .q p] (N .q d))(m:r z 75 [aQ v,N .q d] (N .q s)){i j k}(o:i≠j)(F:i<k)(hj:j<k):
  CX z 113 [N .q q,aQ v,.c<|.P i 0,.c<|.P j 0] [(i,jq n),(j,jq u)] k (.t []) [(i,jq s),(j,jq n)] k:=by
 refine aeu (λx=>if x=2 then i else j) (fm0:=[(2,jq n),(3,jq u)]) (fm0':=[(2,jq s),(3,jq n)]) (vs0:=[N .q q,aQ v,.c<|.P 2 0,.c<|.P 3 0]) Tryz.func113 J J ?_ J J J ?_ ?_ ?_ ?_ J ?_ J (by decide:([2,3]:V Y).Nodup)
 .refine I J<|cA<|rc J J g<|rc J J l<|rc J J m<|re J ?_;exact E8 (st':=⟨[],[oF [2,3],(2,jq s),(3,jq n)],3,[]⟩) aU<|aqk cj J
 .intro e f;have:e=2\/e=3:=by simpa using f
  rcases this with rfl|rfl
  .exact⟨T,by simpa using F⟩
  .exact⟨T,nt⟩
 .intro a ha b hb h;have ha:a=2\/a=3:=xL;have hb:b=2\/b=3:=sC;rcases ha with rfl|rfl<;>rcases hb with rfl|rfl<;>simp at h<;>first|rfl|exact absurd h o|exact absurd h.symm o
 .intro e f;have:e=2\/e=3:=by simpa[cF,AV.ak,bP,C.ak,av]using f
  simpa using this
 .intro e b hb x B;have:x∈([]:V Y):=by simp only[bX,bG,NC,or_false]at hb;rcases hb with⟨_,rfl⟩|⟨_,rfl⟩<;>simpa[aE.ak,bP,C.ak]using B
  cases this
 .intro e b hb x B;have:x∈([]:V Y):=by simp only[bX,bG,NC,or_false]at hb;rcases hb with⟨_,rfl⟩|⟨_,rfl⟩<;>simpa[aE.ak,bP,C.ak]using B
  cases this
abbrev By(i a:Y):aE:= .gM 113 [] [(ah,[.P i 0]),(ah,[.P a 0])]
def aqr{s}(h1:1<=s)(hs:s<=100000000){m}{a d u n}(p:xn s m a d u n){ic i j k}(W:ic≠i)(h13:ic≠j)(h23:i≠j)(hc:ic<k)(hi:i<k)(hj:j<k):
  CX z 112 [N .q a,N .q d,.c<|.X ic] [(ic,By i j),(i,jq n),(j,jq u)] k (N .q<|eJ m a d) [(ic,By i j),(i,jq (kV m a d u n).2),(j,jq (kV m a d u n).1)] k:=by
 refine aeu (λx=>if x=2 then ic else if x=3 then i else j) (fm0:=[(2,By 3 4),(3,jq n),(4,jq u)]) (fm0':=[(2,By 3 4),(3,jq (kV m a d u n).2),(4,jq (kV m a d u n).1)]) (vs0:=[N .q a,N .q d,.c<|.X 2]) Tryz.func112 J J ?_ J J J ?_ ?_ ?_ ?_ J ?_ J (by decide:([2,3,4]:V Y).Nodup)
 .refine I J<|M<|ay<|bf (α:=Y×(V D×V D)×V D×V D) (λx=>⟨[(0,N .q x.2.1.1),(1,N .q x.2.1.2),(2,.c<|.X 2)],[oF [2,3,4],(2,By 3 4),(3,jq x.2.2.2),(4,jq x.2.2.1)],2,[]⟩) (λx=>xn s x.1 x.2.1.1 x.2.1.2 x.2.2.1 x.2.2.2/\eJ x.1 x.2.1.1 x.2.1.2=eJ m a d/\kV x.1 x.2.1.1 x.2.1.2 x.2.2.1 x.2.2.2=kV m a d u n) (λx=>x.1) (m,(a,d),u,n) ⟨p,J,J⟩ aU ?_;obtain⟨U,hU⟩:∃U,U=kV m a d u n:=⟨_,J⟩;rw[<-hU];clear p;rintro⟨t,⟨f,g⟩,u,n⟩ ⟨h2,B,l⟩;simp only at h2 B l;refine M (I J<|c J (λF=>?_)<|λF=>?_)
  .have Q:g≠[]:=λe=>by subst e;cases F
   clear F;cases t with
   |zero=>exact absurd h2 Q
   |succ t=>
    rw[xn]at h2
    rcases h2 with h2|⟨h2,c1,c2,c3,h5⟩
    .exact absurd h2 Q
    rw[eJ,w Q]at B
    rw[kV,w Q]at l
    have yh:=aej h1 hs Q h2
    have GG:=o8 (a:=f) Q
    have lb:=h2.lb
    have y:=h2.rn
    have H:=h2.qr
    have o:sf f g=if cN f g=[]then 1 else(E (cN f g) (Z (cN f g)-1) 0)⁻¹ :=rfl
    generalize hS:tP f g u n=S at*
    generalize sf f g=df at*
    generalize dO f g=q at*
    generalize cN f g=r at*
    refine c7<|aI<|ay<|R<|rc J J yh<|re J<|R<|rc J J (QB 1 T T)<|re J<|m0 ⟨[(1,N .q g),(2,.c<|.X 2),(7,N .q q),(8,N .q<|da r),(10,.c<|.P 4001000 0)],[oF [2,3,4],(2,By 3 4),(3,jq n),(4,jq u),(4001000,.box 44 0<|av .q df)],20,[]⟩ ?_<|λmid=>I J ?_
    .refine R<|rcX J J (aqq (i:=3) (j:=4) c1 c2 c3 T T T) ⟨J,J,A⟩ J<|λkk=>re J<|rt J<|eL<|aS (t,(g,da r),n,S) ⟨h5,B,l⟩ (dJ t) aU
    .refine c J (λh6=>?_) (λh6=>c7 ?_)
     .have v:r≠[]:=λe=>by subst e;cases h6
      rw[w v]at o;have hi:=ajB O r v O (y v)<|H _;have hiv:=(H<|Z r-1).inv<|y v;rw[<-o]at hi hiv;have AO:=QK h1 O df r O hiv H;rw[show eT (qC df r)=da r by rw[da,w v,o]]at AO;exact bw J J hi J<|cA<|rc J J AO<|re J<|eZ mid<|wk (bJ J) ⟨bR J,bR J,bR J,bR J,bE J J,A⟩
     .have v:r=[]:=by have h6:¬(Z r:G)>0:=a4 h6;exact fE O
      rw[ao v]at o;subst v o;exact eZ mid<|wk (bJ J) ⟨bR J,bR J,bR J,bR J,bE J J,A⟩
  .have F:g=[]:=by have F:¬(Z g:G)>0:=a4 F;exact fE O
   subst F;have B:f=eJ m a d:=by
    cases t with
    |zero=>exact B
    |succ t=>rwa[eJ,ao J]at B
   have l:(u,n)=U:=by
    cases t with
    |zero=>exact l
    |succ t=>rw[kV,ao J]at l;exact l
   rw[<-B,<-l];exact bh<|aI<|I J<|bI<|E8 (st':=⟨[(6,N .q f)],[oF [2,3,4],(2,By 3 4),(3,jq n),(4,jq u)],20,[]⟩) aU<|abW cj J
 .intro K L;have:K=2\/K=3\/K=4:=by simpa using L
  rcases this with rfl|rfl|rfl
  .exact⟨T,by simpa using hc⟩
  .exact⟨T,by simpa using hi⟩
  .exact⟨T,nt⟩
 .intro a ha d hb p;have ha:a=2\/a=3\/a=4:=xL;have hb:d=2\/d=3\/d=4:=sC;rcases ha with rfl|rfl|rfl<;>rcases hb with rfl|rfl|rfl<;>simp at p<;>first|rfl|exact absurd p W|exact absurd p.symm W|exact absurd p h13|exact absurd p.symm h13|exact absurd p h23|exact absurd p.symm h23
 .intro K L;have:K=2:=by simpa[cF,AV.ak,bP,C.ak,av]using L
  simp[this]
 .intro K d hb x hx;have:x=3\/x=4:=by simp only[bX,bG,NC,or_false]at hb;rcases hb with⟨_,rfl⟩|⟨_,rfl⟩|⟨_,rfl⟩<;>simpa[aE.ak,eo,bP,C.ak]using hx
  rcases this with rfl|rfl<;>simp
 .intro K d hb x hx;have:x=3\/x=4:=by simp only[bX,bG,NC,or_false]at hb;rcases hb with⟨_,rfl⟩|⟨_,rfl⟩|⟨_,rfl⟩<;>simpa[aE.ak,eo,bP,C.ak]using hx
  rcases this with rfl|rfl<;>simp
def aqs:r z 111 [y 1] (N .q [1]):=gJ (l:=[]) A dN J J
def aqt:r z 111 [y 0] (N .q []):=gJ (l:=[]) A dN J J
def aqu{s}(h1:1<=s)(hs:s<=100000000){L}{a l e U g u1 pe u p d v x1 x2 x3:V D}{n}(f:xn s L a l [1] [])(hr:eJ L a l=e)(hU:(kV L a l [1] []).1=U)(hb:l≠[])(r0:e≠[])(lr:Z e<=1000)(hc:E e (Z e-1) 0=n)
  (o:r z 114 [N .q e] (N .q g)) (x:r z 115 [aQ n] (.t [(ae,av .q n⁻¹),(ah,[.I .i64 0])])) (B:r z 75 [aQ n⁻¹,N .q U] (N .q u1))
  (Q:r z 65 [N .q l,N .q g] (.t [(ah,[.S .q pe]),(ah,[.S .q x1]),(ah,[.I .i64 0])])) (W:r z 65 [N .q u1,N .q pe] (.t [(ah,[.S .q x2]),(ah,[.S .q u]),(ah,[.I .i64 0])]))
  (F:r z 67 [N .q u,N .q a] (N .q p)) (H:r z 74 [N .q g,N .q p] (N .q d)) (Ud:r z 65 [N .q d,N .q l] (.t [(ah,[.S .q v]),(ah,[.S .q x3]),(ah,[.I .i64 0])])):
  r z 63 [N .q a,N .q l] (.t [(ah,[.S .q g]),(ah,[.S .q u]),(ah,[.S .q v])]):=by
 refine aJ Tryz.func63 ?_
 have K:=cv.2 hb
 have X:=cv.2 r0
 have C:=aqr h1 hs f (ic:=2002000) (i:=1003000) (j:=1002000) (k:=2003000) T T T T T T
 rw[hr,hU]at C
 generalize (kV L a l [1] []).2=y at C
 refine I J<|R<|rc J J aqs<|rc J J aqt<|j J ?_
 refine R<|anh J J J<|λw=>rcX J J C ⟨J,J,J,A⟩ J<|λw=>j J ?_
 refine dW (st':=⟨[(0,N .q a),(1,N .q l),(7,.c<|.P 1002000 0),(9,N .q e)],[(1002000,jq U)],3,[]⟩) aU ?_
 refine M<|I J<|c J (λf=>?_)<|λf=>aD ?_
 .have f:(Z e:G)=0:=eq_of_beq f;exact absurd f O
 have m:r z 115 [aQ (E e (af<|(Z e:G)-1) 0)] (.t [(ae,av .q n⁻¹),(ah,[.I .i64 0])]):=by rw[(O:af ((Z e:G)-1)=Z e-1),hc];exact x
 refine R<|rc J J o<|j J<|R<|rc J J m (j J ?_) (hp:=aF)
 refine R<|rc J J B<|j J ?_
 refine M<|I J<|c J (λf=>?_)<|λf=>aD ?_
 .have f:(Z l:G)=0:=eq_of_beq f;exact absurd f O
 refine R<|rc J J Q<|j J<|R<|rc J J W<|j J ?_
 refine R<|rc J J F<|rc J J H<|rc J J Ud<|j J ?_
 exact I J<|cJ J
def Rx.Ht.inv{f k}{d}(a:Ht f d)(g:d k≠0):Ht f (K (d k)⁻¹):=by
 let ⟨l,n,h2,o⟩:=a;let ⟨z,p,m⟩:=o k;have q:z≠0:=λe=>by
  subst e;have:(l:D)*d k=0:=m;rcases yw.1 this with a|a
  .exact Hb n a
  .exact g a
 refine⟨z,q,p,λi=>?_⟩;rw[mz];split
 .refine⟨l,h2,?_⟩;rw[<-m,nE,Rat.mul_inv_cancel _ g,tn]
 .exact⟨0,a8 _,fO _⟩
def Rx.Ht.one{a}(d:1<=a):Ht a (K 1):=⟨1,T,d,λi=>by
 rw[mz];split
 .exact⟨1,d,tn _⟩
 .exact⟨0,a8 _,fO _⟩⟩
def aqv{n t}{a d}(e:Pz n t (cN a d)):Ht (2^t) (K<|sf a d):=by
 unfold sf;split
 .exact Ht.one<|iA T
 .rename_i f;exact e.ht.inv (k:=Z (cN a d)-1)<|e.can.ne f
def Rx.Ht.Ue{t s}{a}(d:Ht (2^t) (K a))(e:t<32*s):QS s a:=by have:=d.qs (mB e) 0;rwa[mz,ao J]at this
def aqw{d t}(a:1<=d):t+(t+1)*(d+1)+1<=(t+1)*3^d:=by have:=three a;have e:=ia (t+1) this;rw[uD]at e;rw[uD];omega
def aeB{s t l w d}{a e u n}(i:Pz 12 t a)(k:Pz 12 t e)(m:e≠[])(v:Pz l w u)(x:Pz l w n)(o:Z a+1-Z e<=d)(f:d<=12)(L:l+11<=400)(p:s<=100000000)(P:2*w+2*(t+(t+1)*d)+t+6<32*s):
  wH s a e/\r z 67 [N .q (dO a e),N .q n] (N .q<|ml (dO a e) n)/\r z 74 [N .q u,N .q<|ml (dO a e) n] (N .q<|nG u<|ml (dO a e) n)/\
   r z 75 [aQ (sf a e),N .q<|nG u<|ml (dO a e) n] (N .q<|tP a e u n)/\Pz 12 (t+(t+1)*d) (da<|cN a e)/\Pz (l+11) (2*w+2*(t+(t+1)*d)+5) (tP a e u n):=by
 have B:Pz 12 (t+(t+1)*d) (dO a e):=(i.quo k m o).le f<|aW _
 have C:Pz 12 (t+(t+1)*d) (cN a e):=i.rem k m o
 have F:=aqv C
 have H:=B.mul x T
 have g:=v.sub H
 have K:=g.YV F
 exact⟨i.YY k m o T T O,Ua B x T O O p,v.aeg H (s:=s) O O O O p,
  g.aei (F.Ue O) O O p,C.aH,K.le O O⟩
def aeC{s B W:Y}(q:s<=100000000)(H:W+4*B+6<32*s):∀(k t l g:Y)(a f u n:V D),Pz 12 t a->Pz 12 t f->(f=[]\/Z f<Z a)->Z f<k->Pz l g u->Pz l g n->l+11*k<=400->(t+1)*3^Z a<=B->(g+6*B)*2^k<=W->
  xn s k a f u n/\Pz 12 B (eJ k a f)/\Pz 400 W (kV k a f u n).1
 |0,_,_,_,_,_,_,_,_,_,_,cq,_,_,_,_,_=>by omega
 |k+1,t,l,g,a,f,u,n,o,v,i,hk,hu,x,hl,F,hw=>by
  have L:0<3^Z a:=iA T;have K:t+1<=B:=bQ (ye _ L) F;have P:0<2^(k+1):=iA T;have Q:g+6*B<=W:=bQ (ye _ P) hw;by_cases e:f=[]
  .rw[xn,eJ,kV,ao e,ao e];exact⟨.inl e,o.le (aW _) O,hu.le O O⟩
  .have i:=i.resolve_left e;have U:=cv.2 e;have X:=aqw (t:=t) (d:=Z a-Z f) O;have c:Z a+1-Z f=Z a-Z f+1:=O;have C:(t+(t+1)*(Z a+1-Z f)+1)*3^Z f<=B:=by rw[c];refine bQ (ef _ X) ?_;rw[uB,<-lI,Nat.sub_add_cancel<|xw i];exact F
   have j:0<3^Z f:=iA T;have r:t+(t+1)*(Z a+1-Z f)+1<=B:=bQ (ye _ j) C;have m:(2*g+2*(t+(t+1)*(Z a+1-Z f))+5+6*B)*2^k<=W:=by refine bQ ?_ hw;rw[fp,gO (2^k) 2,<-uB];exact ef _ O
   have y:0<2^k:=iA T;have z:=bQ (ye _ y) m;let ⟨c1,A,E,G,I,J⟩:=aeB (s:=s) (d:=Z a+1-Z f) o v e hu x (aW _) (by have:=o.len;omega) O q O;have p:Z (da<|cN a f)<Z f:=by rw[AL (rV o.can)];exact o8 e
   let ⟨r1,M,N⟩:=aeC q H k (t+(t+1)*(Z a+1-Z f)) (l+11) (2*g+2*(t+(t+1)*(Z a+1-Z f))+5) f (da<|cN a f) n (tP a f u n) (v.le (aW _) O) I (.inr p) O (x.le O O) J O C m;rw[xn,eJ,kV,w e,w e];exact⟨.inr ⟨c1,A,E,G,r1⟩,M,N⟩
def aeD{A0 M0:Rx}:∀(k:Y)(a d u n:V D),bF a->bF d->Z d<k->M0∣lx a-lx u*A0->M0∣lx d-lx n*A0->M0∣lx (eJ k a d)-lx (kV k a d u n).1*A0
 |0,_,_,_,_,_,_,v,_,_=>by omega
 |k+1,a,d,u,n,m,g,x,l,h2=>by
  rw[eJ,kV];split
  .exact l
  .rename_i e;have o:Z (da<|cN a d)<Z d:=by rw[AL (rV m)];exact o8 e
   refine aeD k d (da<|cN a d) n (tP a d u n) g (po _) O h2 ?_;have p:lx (da<|cN a d)=K (sf a d)*lx (cN a d):=by
    unfold sf;split
    .rename_i f;rw[f,G8,nF,Rx.mul_zero]
    .rename_i f;exact uT f
   have q:=Lr (a:=a) g e;have s:lx (cN a d)=lx a-lx (dO a d)*lx d:=Dp (by rw[Rx.add_comm];exact q.symm);rw[p,tP,Dz,Rp,px,s];have t:K (sf a d)*(lx a-lx (dO a d)*lx d)-K (sf a d)*(lx u-lx (dO a d)*lx n)*A0=K (sf a d)*((lx a-lx u*A0)-lx (dO a d)*(lx d-lx n*A0)):=by
    simp only[Rx.mul_sub,Rx.sub_mul,Rx.mul_assoc];refine ext λi=>?_
    simp only[uC];grind
   rw[t];exact dI (dvd_sub l<|dI h2 _) _
end Go.El
