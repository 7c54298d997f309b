/- Contract: the reference's integer polynomial of a monic one. Own work; no condition. -/
import Derived.Test.YtceihkmakfdcnaaGreatD13
import Derived.Test.YtceihkmakfdcnaaGreatD12
import Derived.Test.YtceihkmakfdcnaaGreatD8
import Derived.Test.YtceihkmakfdcnaaGreatD6
import Derived.Test.YtceihkmakfdcnaaGreatD11
import Derived.Test.YtceihkmakfdcnaaGreatD3
import Derived.Test.YtceihkmakfdcnaaGreatD4
set_option linter.all false
set_option maxHeartbeats 16000000
set_option maxRecDepth 100000
open Bool renaming true->ae,false->ah
open Go.El renaming cS->I,rr->N,ja->S,re->z,du->j,jd->r,cI->R,rb->F
open Go.Proofs.Tryz renaming prog->q
open Int renaming natAbs->aC,toNat->af,ofNat->V1
open List renaming getD->E,length->Z,take->c,mem_range'_1->aso,drop->aA
open Nat renaming gcd->nT,ble->dP,beq->g6
open Option renaming some->ad
open _root_ renaming Int->G,Rat->e,Nat->Y,List->V,Option->ax
namespace Go.El
open Go Go.Proofs Go.RowKit Rx
def asf{a}{d f:G}(i:(d:e)*a=(f:e)):(a.den:G)∣d:=by
 have k:d*a.num=f*(a.den:G):=by
  have g:(d:e)*(((a.den:Y):e)*a)=(f:e)*((a.den:Y):e):=by rw[<-i];grind
  rw[NI]at g;have l:((d*a.num:G):e)=((f*(a.den:G):G):e):=by rw[fZ,fZ];exact g
  exact xU.1 l
 have m:a.den∣aC d*aC a.num:=⟨aC f,by rw[<-rQ,k,rQ,px,gG]⟩;have n:=Nat.Coprime.dvd_of_dvd_mul_right (Nat.Coprime.symm a.reduced) m;exact TN.2 n
def p7(a:V e)(k:Y):G:=(E a k 0).num*((dU a:Y):G)/((E a k 0).den:G)
def p8(a:V e):V G:=(List.range<|Z a).map<|p7 a
def sy(a:V e):Y->Y
 |0=>0
 |i+1=>nT (sy a i)<|aC<|p7 a i
def VS(a:V e):∀i d,d<i->sy a i∣aC (p7 a d)
 |0,d,f=>by omega
 |i+1,d,f=>by
  rw[sy];by_cases g:d=i
  .rw[g];exact Sq _ _
  .exact Fb (Nat.gcd_dvd_left _ _)<|VS a i d O
section
variable{a:V e}
def afZ{k}(d:k<Z a):((p7 a k:G):e)=((dU a:Y):e)*E a k 0:=by have f:(E a k 0).den∣dU a:=FW a _ k d;have:=O2 (E a k 0) (D:=((dU a:Y):G))<|xC.2 f;exact this
def ash{k}(d:k<Z a):(E a k 0).num*((dU a:Y):G)=((E a k 0).den:G)*p7 a k:=by
 have f:(E a k 0).den∣dU a:=FW a _ k d;let ⟨e,he⟩:=f;unfold p7;have g:((E a k 0).den:G)≠0:=by have:=(E a k 0).den_pos;omega
 rw[he,fD,(fG:(E a k 0).num*(((E a k 0).den:G)*(e:G))=((E a k 0).den:G)*((E a k 0).num*(e:G))),VL _ g]
def Pc(d:jt a):p7 a (Z a-1)=((dU a:Y):G):=by unfold p7;rw[d.one];show(1:G)*_/1=_;rw[kL,uo]
def asi(o:jt a):sy a (Z a)=1:=by
 have U:=o.l2;have p:0<dU a:=FX a _;obtain⟨f,l⟩:sy a (Z a)∣dU a:=by have:=VS a (Z a) (Z a-1) O;rwa[Pc o,px]at this
 generalize B:sy a (Z a)=d at*;have C:0<d:=by
  rcases qD d with g|g
  .rw[g,sU]at l;omega
  .exact g
 have i:∀k,(E a k 0).den∣f:=λk=>by
  by_cases s:k<Z a
  .have t:=VS a (Z a) k s;rw[B]at t;let ⟨z,H⟩:=TN.2 t;have u:=afZ s;rw[l,H]at u;have K:((f:G):e)*E a k 0=(z:e):=by
    have m:((d:Y):e)≠0:=xQ O;have L:((d:Y):e)*(z:e)=((d:Y):e)*(((f:G):e)*E a k 0):=by
     have M:(((d:G)*z:G):e)=((d:Y):e)*(z:e):=fZ _ _;have P:((d*f:Y):e)=((d:Y):e)*((f:G):e):=by rw[<-r9,fD,fZ];rfl
     rw[<-M,u,P,ny]
    have v:=be (λx=>((d:Y):e)⁻¹ *x) L;simp only[<-ny,lU _ m,rZ]at v;exact v.symm
   exact xC.1<|asf K
  .rw[iP a O];exact Nat.one_dvd _
 have A:dU a∣f:=Vm a i _;rw[l]at A;let ⟨y,Q⟩:=A;have n:0<f:=by
  rcases qD f with g|g
  .rw[g,NH]at l;omega
  .exact g
 have:1*f=d*y*f:=by
  rw[jn];conv=>lhs;rw[Q]
  ac_rfl
 have T:=Nat.eq_of_mul_eq_mul_right n this;exact Nat.dvd_one.1 ⟨y,T⟩
def Ax a:Z (p8 a)=Z a:=by simp[p8]
def JV a{k}(d:k<Z a):E (p8 a) k 0=p7 a k:=by unfold p8;rw[aK,jh,k6 d];rfl
def asj(f:jt a):Pa (p8 a)=dV a:=by
 have l:=f.l2;unfold Pa dV;rw[Ax];refine SE λk d=>?_
 have d:=l3.1 d;unfold sx;rw[Ax];split
 .rename_i e;rw[e,f.one,lH,o8];rfl
 .rename_i e;rw[JV a d,JV a O,Pc f,(O:Z a-1-k=(Z a-2-k)+1),fK];have g:((E a k 0).den:G)≠0:=by have:=(E a k 0).den_pos;omega
  have i:=ash (a:=a) d;rw[show(E a k 0).num*(((dU a:Y):G)^(Z a-2-k)*((dU a:Y):G))=((E a k 0).den:G)*(p7 a k*((dU a:Y):G)^(Z a-2-k))by rw[<-jl ((E a k 0).den:G),<-i];ac_rfl,VL _ g]
def asl{k}(d:k<Z a):(E a k 0*(((dU a:Y):G):e)).num=p7 a k:=by have f:=afZ d;rw[BX,show((((dU a:Y):G):G):e)=((dU a:Y):e)from J,<-f];rfl
def af0(d:∀k,k<Z a->aH 201 (p7 a k)):∀i,i<=Z a->aH 201 ((sy a i:Y):G)
 |0,_=>aH.zero _
 |i+1,l=>by
  have f:=af0 d i O;have g:=d i O;unfold aH at*;rw[px]at*;rw[sy];rcases qD (sy a i)with e|e
  .rw[e,Nat.gcd_zero_left];exact g
  .exact vW (Nat.gcd_le_left _ e) f
def af1(f:jt a)(d:∀i,QS 20 (E a i 0)){k:Y}(_:k<Z a):aH 201 (p7 a k):=by have g:=(d k).n.mul ((Vp a d<|Z a).le<|show 20*Z a+1<=181 by have:=f.l9;omega);have l:=VM ((E a k 0).num*((iF a (Z a):Y):G)) ((E a k 0).den:G);have m:p7 a k=(E a k 0).num*((iF a (Z a):Y):G)/((E a k 0).den:G):=rfl;unfold aH at*;rw[m];exact vW l g
def asm(v:jt a)(u:∀i,QS 20 (E a i 0)):r q 169 [I .q a] (I .z<|p8 a):=by
 have l2:=v.l2;have l9:=v.l9;have m:=λi(l:i<=9)=>(Vp a u i).le (O:20*i+1<=181)
 have x:=λi(l:i<=9)=>(m i l).sm D
 have y:QS 181 (((dU a:Y):G):e):=⟨m _ l9,(aH.one (a:=1) D).le D⟩;have n:=λk A=>af1 v u (k:=k) A
 have B:=λk A=>(n k A).sm (by decide:201<=1099511627776)
 have U:=asi v;have W:=λi l=>(af0 n i l).sm (by decide:201<=1099511627776)
 have b:=Ax a;have o:=λk(A:k<Z a)=>JV a A
 have C:=Pc v;have Fj:0<dU a:=FX a _;have H:=λk=>(u k).d.sm (by decide:20<=1099511627776)
 have p:∀i,((iF a i:Y):G)*(((E a i 0).den:G)/((nT (iF a i) (E a i 0).den:Y):G))=((iF a (i+1):Y):G):=λi=>by rw[iF,fD,xv]
 have w:∀i,i<=9->Sm (((E a i 0).den:G)/((nT (iF a i) (E a i 0).den:Y):G)):=λi l=>by have f:=(u i).d;have h2:=VM ((E a i 0).den:G) ((nT (iF a i) (E a i 0).den:Y):G);exact(show aH 20 _ by unfold aH at*;omega:aH 20 (((E a i 0).den:G)/((nT (iF a i) (E a i 0).den:Y):G))).sm D
 have S:=λi=>SM (k:=181) (E a i 0) (((dU a:Y):G):e) ((u i).le D) y D
 clear m n y;refine aI Tryz.func169 ?_;refine N J<|bt J J (jq 1 D D) J<|j<|N J ?_;refine au<|a8 (α:=Y) (λi=>⟨[(0,I .q a),(3,.c<|.P 1001000 0),(4,R i)],[(1001000,.box 42 0<|av .z ((iF a i:Y):G))],3,[]⟩) (λi=>i<=Z a) (λi=>Z a-i) 0 (aY _) (wk (bO J) ⟨bE J J,h⟩) ?_;intro i l;refine j<|N J<|al J (λf=>?_)<|λf=>?_
 .have f:i<Z a:=by have f:(i:G)<(Z a:G):=aU f;omega
  have V:af ((i:G))=i:=bY i;have hg:=Mc ((iF a i:Y):G) ((E a i 0).den:G) (x i O)<|H i;have hgp:0<nT (iF a i) (E a i 0).den:=Nat.gcd_pos_of_pos_right _ (E a i 0).den_pos;have av5:nT (iF a i) (E a i 0).den<=(E a i 0).den:=Nat.gcd_le_right _ (E a i 0).den_pos;have s:=EC ((E a i 0).den:G) ((nT (iF a i) (E a i 0).den:Y):G) O (H i)<|(show aH 20 ((nT (iF a i) (E a i 0).den:Y):G)by have:=(u i).d;unfold aH at*;omega).sm D;have K:=kZ ((iF a i:Y):G) (((E a i 0).den:G)/((nT (iF a i) (E a i 0).den:Y):G)) (x i O)<|w i O;rw[p]at K;refine aD<|j<|au ?_;refine F<|rc J J hg (z J<|F<|rc J J s (z J ?_) (hp:=aF)) (hp:=aF);exact cu<|rc J J K<|z J<|bw<|rt J (hp:=aF)<|aT (i+1) f nS<|wk (bO J) ⟨bE J J,h⟩
 have f:i=Z a:=by have f:¬(i:G)<(Z a:G):=a6 f;omega
 subst f;have dz:iF a (Z a)=dU a:=rfl;refine a7<|aL ?_;rw[dz];refine F<|fT .z [] J J (z J<|bt J J (jq 0 D D) J<|j<|N J ?_);generalize hL:p8 a=L at*;refine au<|a8 (α:=Y) (λi=>⟨[(0,I .q a),(3,.c<|.P 1001000 0),(9,.c<|.X 4000000),(10,.c<|.P 5001000 0),(11,R i)],[(1001000,.box 42 0<|av .z ((dU a:Y):G)),(4000000,.vec 42 .z<|c i L),(5001000,.box 42 0<|av .z ((sy a i:Y):G))],8,[]⟩) (λi=>i<=Z a) (λi=>Z a-i) 0 (aY _) (wk (bO J) ⟨bR J,bR J,bE J J,h⟩) ?_;intro i l;have hl:(c i L).length=i:=b8;refine j<|N J<|al J (λf=>?_)<|λf=>?_
 .have f:i<Z a:=by have f:(i:G)<(Z a:G):=aU f;omega
  have hm:=S i;have g:=asl (a:=a) f;have M:=Mc ((sy a i:Y):G) (p7 a i) (W i O)<|B i f;refine aD<|j<|au ?_;refine F<|rc J J (jq 1 D D) (rc J J hm<|z J ?_) (hp:=aF);rw[<-g]at M;refine F<|rl .z [(E a i 0*(((dU a:Y):G):e)).num] J J (ra J J J J J J J J J ?_ ?_<|z J ?_)
  .exact afQ (c i L) O
  .exact afR (c i L) O
  refine cu<|rc J J M<|z J<|bw<|rt J<|aT (i+1) f nS<|Wk.trans (wk (st':=⟨[(0,I .q a),(3,.c<|.P 1001000 0),(9,.c<|.X 10004000),(10,.c<|.P 5001000 0),(11,R ((i+1:Y):G))],[(1001000,.box 42 0<|av .z ((dU a:Y):G)),(10004000,.vec 42 .z<|c (i+1) L),(5001000,.box 42 0<|av .z ((sy a (i+1):Y):G))],16,[]⟩) (bO J) ⟨bR J,bE J ?_,bE J ?_,h⟩)<|Wk.trans (fU 4000000 10004000 J J J) aM
  .refine be (aG.vec 42 .z) ?_;rw[rU L i O,o i f,g]
  .rw[sy,<-g];rfl
 have f:i=Z a:=by have f:¬(i:G)<(Z a:G):=a6 f;omega
 subst f;rw[iY O,U];refine a7<|aL<|j ?_;have t:E L (af<|(Z L:G)-1) 0=((dU a:Y):G):=by rw[b,(O:af ((Z a:G)-1)=Z a-1),o _ O,C]
 have hsg:=By<|E L (af<|(Z L:G)-1) 0;have Q:¬fB (E L (af<|(Z L:G)-1) 0)<0:=by rw[t,MZ];omega
 refine F<|rg 73 J J (λ_=>?_)<|λf=>?_;rotate_left
 .exfalso;have f:¬(Z a:G)>0:=a6 f;omega
 refine jV J J J J J hsg (z J<|al J (λf=>?_)<|λ_=>aD ?_) (hp:=aF)
 .exfalso;exact Q<|aU f
 refine j<|N J<|au<|a8 (α:=Y) (λi=>⟨[(9,.c<|.X 4000000),(10,.c<|.P 5001000 0),(13,R i)],[(4000000,.vec 42 .z L),(5001000,.box 42 0<|av .z ((1:Y):G))],16,[]⟩) (λi=>i<=Z L) (λi=>Z L-i) 0 (aY _) aM ?_;intro i l;refine j<|N J<|al J (λf=>?_)<|λf=>?_
 .have f:i<Z L:=by have f:(i:G)<(Z L:G):=aU f;omega
  have V:af ((i:G))=i:=bY i;have s:=EC (E L (af<|(i:G)) 0) ((1:Y):G) D (by rw[V,o i O];exact B i O)<|(aH.one (a:=((1:Y):G)) D).sm D;refine aD<|j<|au ?_;refine F<|rc J J s (z J ?_) (hp:=aF);refine cu<|vO (T:= .z) (E L (af<|(i:G)) 0/((1:Y):G)) J J J J J ?_ (z J<|bw<|rt J (hp:=aF)<|aT (i+1) f (O:Z L-(i+1)<Z L-i)<|wk (bO J) ⟨bE J ?_,bR J,h⟩) (hp:=aF)
  .show af ((i:G))<_;omega
  .refine be (aG.vec 42 .z)<|NU (by rw[ru]) λna hj=>?_;rw[uk _ _ _ _ O,V];split
   .rename_i dN;rw[dN];exact uo _
   .rfl
 .have f:i=Z L:=by have f:¬(i:G)<(Z L:G):=a6 f;omega
  subst f;exact a7<|aL<|cY 4000000 J J J<|N J<|cw J
end
end Go.El
namespace Go.El
open Go Go.Proofs Go.RowKit Fx
def tdB(n:Y):Bool:=[2,3,5,7,11,13,17,19,23,29,31,37,41,43,47].all λk=>dP n k|| !(g6 (n%k) 0)
def F4:V Y:=((List.range' 3 2300).filter tdB)
def Pe{p}(a:p∈F4):3<=p/\p<2304:=by have d:=(oP.1 a).1;rw[aso]at d;omega
def af3{p}(f:p∈F4):dO p:=by
 let ⟨y,h2⟩:=Pe f;have n:tdB p=ae:=(oP.1 f).2;have g:∀k∈[2,3,5,7,11,13,17,19,23,29,31,37,41,43,47],p<=k\/p%k≠0:=λk g=>by
  have:=jS.1 n k g;rcases vE _ _▸this with e|e
  .exact .inl<|c8 e
  .right;intro o;rw[o]at e;exact absurd e D
 refine⟨O,λd s A t=>?_⟩;have u:d<48:=eZ λf=>by have:48*48<=d*d:=mL O O;omega
 have v:d<p:=by have:2*d<=d*d:=eC d s;omega
 obtain⟨q,i,a⟩:∃q∈[2,3,5,7,11,13,17,19,23,29,31,37,41,43,47],q∣d:=by have l:(List.range' 2 46).all (λd=>[2,3,5,7,11,13,17,19,23,29,31,37,41,43,47].any λq=>g6 (d%q) 0)=ae:=dZ;have x:=jS.1 l d (by rw[aso];omega);let ⟨q,i,m⟩:=List.any_eq_true.1 x;exact⟨q,i,I2<|lL m⟩
 have m:=Fb a<|I2 t;have B:=vZ O a;rcases g q i with e|e
 .omega
 .exact e<|Nat.mod_eq_zero_of_dvd m
def asp:F4.Nodup:=(List.nodup_range' (s:=3) (n:=2300) (step:=1)).filter _
def asq:dP (xV+1) (qT F4)=ae:=dZ
def asr:xV<qT F4:=abM asq
def af4{p}(a:p∈F4):br p:=⟨af3 a,by have:=(Pe a).2;omega⟩
def jt.af5{a}(f:jt a):∃p,dO p/\3<=p/\p<2304/\FU p (dV a)=ae:=by let ⟨p,d,hc⟩:=f.aeB asp (λ_ d=>af4 d) asr;exact⟨p,af3 d,(Pe d).1,(Pe d).2,(aeo (af4 d) _).2 hc⟩
def af6{p:Y}:∀{L:V (V G×G)},(∀x∈L,bq (fx x.1:Fx p)/\1<=x.2)->qU (iU p L)->iU p L=gf (L.map (·.1))
 |[],_,_=>rfl
 |x::l,a,d=>by
  let ⟨f,h2⟩:=a x az;have g:=af6 (L:=l) (λy hy=>a y uH)<|d.of_dvd ⟨pk (fx x.1)<|af x.2,by rw[iU,mul_comm]⟩;rw[iU,il,gf,g];by_cases e:af x.2=1
  .rw[e,r6]
  .exfalso;obtain⟨n,i⟩:∃n,af x.2=n+1+1:=⟨af x.2-2,O⟩;refine d _ f ⟨pk (fx x.1) n*iU p l,?_⟩;rw[iU,i];show pk (fx x.1) n*fx x.1*fx x.1*iU p l=_;ac_rfl
section
variable{p:Y}{a:V G}
def pT.ob(d:pT p a){L}(m:CN p (fx a:Fx p) L):wK p a (L.map (·.1))/\∀g∈L.map (·.1),bq (fx g:Fx p):=by
 have k:∀g∈L.map (·.1),Mon p g/\2<=Z g/\bq (fx g:Fx p):=λg i=>by obtain⟨x,n,rfl⟩:=iJ.1 i;let ⟨t,u,v,_⟩:=m.parts x n;exact⟨t,u,v⟩
 have o:(fx a:Fx p)=gf (L.map (·.1)):=by rw[<-m.prod];exact af6 (λx n=>⟨(m.parts x n).2.2.1,(m.parts x n).2.2.2⟩) (by rw[m.prod];exact d.lV)
 have y:Z a=1+dD (L.map (·.1)):=by
  let ⟨t1,t2⟩:=z6 d.p1 Cs (l:=L.map (·.1)) λf s=>⟨(k f s).1.ne,(k f s).1.one⟩
  rw[<-uQ d.H d.am,o,<-z7 (L.map (·.1)) p (Jd _),uQ d.H t1,t2];rfl
 refine⟨⟨d.am,λg i=>⟨(k g i).1,(k g i).2.1⟩,by rw[aek,o],ael d.H (λg i=>(k g i).2.2) (by rw[<-o];exact d.lV),y,?_⟩,λg i=>(k g i).2.2⟩;have:=d.l9;omega
def F1.mem{k}{l X}(m:F1 p k a l X){f}(t:f∈X):∃g∈l,aJ f/\Z f=Z g/\(fx f:Fx p)=fx g/\∀n,dH (E f n 0) ((p:G)^k)=E f n 0:=by
 obtain⟨i,o,rfl⟩:=La t;have d:i<Z l:=by rw[<-m.len];exact o
 have s:=m.ok i d;rw[aK,aK,cO o,cO d]at s;exact⟨l[i],sF d,s⟩
def F1.Pf{k}{l X}(g:F1 p k a l X):X.map (fx (p:=p))=l.map fx/\dD X=dD l:=by
 have m:∀(X l:V (V G)),X.length=Z l->(∀i,i<Z l->(X.getD i []).length=(l.getD i []).length/\(fx (X.getD i []):Fx p)=fx (l.getD i []))->X.map (fx (p:=p))=l.map fx/\dD X=dD l:=by
  intro X;induction X with
  |nil=>
   intro l d _
   rw[eT d.symm];exact⟨J,J⟩
  |cons x X o=>
   intro l d h
   cases l with
   |nil=>cases d
   |cons y l=>
    let ⟨i1,i2⟩:=o l (Nat.succ.inj d) λi f=>h (i+1)<|Nat.succ_lt_succ f
    have n:Z x=Z y/\(fx x:Fx p)=fx y:=h 0<|Nat.succ_pos _
    exact⟨by rw[il,il,i1,n.2],by rw[dD,dD,i2,n.1]⟩
 exact m X l g.len λi f=>⟨(g.ok i f).2.1,(g.ok i f).2.2.1⟩
def pT.cbX(d:pT p a){L}(o:CN p (fx a:Fx p) L){k}(s:1<=k)(y:2*gR a<p^k){X}(l:F1 p k a (L.map (·.1)) X):g5 p ((p:G)^k) a X:=by
 let ⟨A,t⟩:=d.ob o;refine⟨d.H,⟨k,s,J⟩,d.am,λf n=>?_,λf n=>?_,?_,l.pr,d.lV,?_,λg u v i=>?_⟩
 .let ⟨_,_,m,_⟩:=l.mem n;exact m
 .let ⟨g,hg,_,_,x,_⟩:=l.mem n;rw[x];exact t g hg
 .have m:((L.map (·.1)).map<|fx (p:=p)).Pairwise Co:=Fg.2 A.co;rw[<-l.Pf.1]at m;exact Fg.1 m
 .rw[l.Pf.2];exact A.fl
 .have:=aen d.am u v i;have e:((p^k:Y):G)=(p:G)^k:=uv p k;rw[<-e];omega
end
end Go.El
namespace Go.El
open Go Go.Proofs Go.RowKit Rx
def JW{a d}:nX a d<=0↔a<=d:=by
 unfold nX;by_cases f:a<d
 .rw[b f];exact⟨λ_=>Rat.le_of_lt f,λ_=>O⟩
 .rw[w f];by_cases h2:d<a
  .rw[b h2];exact⟨λh=>O,λh=>absurd h2<|Rat.not_lt.2 h⟩
  .rw[w h2];exact⟨λ_=>Rat.not_lt.1 h2,λ_=>hO _⟩
def VT{a d}:nX a d=0↔a=d:=by
 constructor
 .intro h;refine Rat.le_antisymm (JW.1 O)<|JW.1 ?_;rw[Vs];omega
 .rintro rfl;have:=Vs a a;omega
def af7(a d f:V e):∀i,q6 a d i<=0->q6 d f i<=0->q6 a f i<=0
 |0,_,_=>hO _
 |i+1,n,h2=>by
  rw[q6]at*;have t:=af7 a d f i;have q1:=@JW (E a i 0)<|E d i 0;have u:=@JW (E d i 0)<|E f i 0;have v:=@JW (E a i 0)<|E f i 0;have s:=@VT (E a i 0)<|E d i 0;have A:=@VT (E d i 0)<|E f i 0;have B:=@VT (E a i 0)<|E f i 0;generalize E a i 0=x at*;generalize E d i 0=y at*;generalize E f i 0=z at*;by_cases o:nX x y=0
  .rw[w (λg=>g o)]at n;have:=s.1 o;subst this;by_cases k:nX x z=0
   .rw[w (λg=>g k)]at*;exact t n h2
   .rw[b k]at*;exact h2
  .rw[b o]at n;have l:=q1.1 n;have m:y<=z:=by
    by_cases k:nX y z=0
    .rw[A.1 k];exact Rat.le_refl
    .rw[b k]at h2;exact u.1 h2
   have p:=Rat.le_trans l m;have C:nX x z≠0:=λg=>by have:=B.1 g;subst this;exact o<|s.2<|Rat.le_antisymm l m
   rw[b C];exact v.2 p
def ast{a d f}(k:ju a d<=0)(g:ju d f<=0):ju a f<=0:=by
 have o:∀x y:G,pU x y<=0->x<=y:=λx y h=>by unfold pU at h;split at h<;>(try split at h)<;>omega
 have l:∀x y:G,x<y->pU x y<=0:=λx y h=>by unfold pU;rw[b h];omega
 have m:∀{a d:V e},ju a d<=0->Z a<=Z d:=λ{a d} h=>by
  by_cases i:Z a=Z d
  .omega
  .rw[ju,b i]at h;have:=o _ _ h;omega
 have s:=m k;have t:=m g;by_cases i:Z a=Z f
 .have n:Z a=Z d:=by omega
  have p:Z d=Z f:=O;rw[ju,w<|λh=>h n]at k;rw[ju,w<|λh=>h p]at g;rw[ju,w<|λh=>h i];rw[<-n]at g;exact af7 a d f _ k g
 .rw[ju,b i];exact l _ _ O
abbrev vd(x y:V e×G):Prop:=FY x y<=0
def asu{x y a}(d:vd x y)(f:vd y a):vd x a:=ast d f
def asv{l}(d:l.Pairwise vd):gAd yf FY l (Z l-1):=λt f=>by
 have g:∀k(a:k<Z l),E l k yf=l[k]:=λk a=>by rw[aK,cO a];rfl
 have:=List.pairwise_iff_getElem.1 d t (t+1) O O O;rw[g t O,g (t+1) O];have e:=aeX l[t+1] l[t];omega
section
variable{α:Type}(d:α)(lt:α->Bool)(x:α)(l:V α)
def af8:∀i,i<=Z l->((ji d lt x l i).1=ah/\(ji d lt x l i).2=c i l/\∀a,a<i->lt (E l a d)=ah)\/((ji d lt x l i).1=ae/\∃k,k<i/\(∀a,a<k->lt (E l a d)=ah)/\lt (E l k d)=ae/\(ji d lt x l i).2=c k l++x::(c i l).drop k)
 |0,_=> .inl ⟨J,J,λa y=>O⟩
 |i+1,o=>by
  have f:c (i+1) l=c i l++[E l i d]:=by rw[sH,aK,cO o];rfl
  have p:(c i l).length=i:=BI;rw[VF];rcases af8 i O with⟨m,s,n⟩|⟨m,k,A,t,u,v⟩
  .rw[m,s];cases g:lt (E l i d)with
   |false=>
    left
    refine⟨J,f.symm,λa B=>?_⟩
    by_cases e:a=i
    .rw[e];exact g
    .exact n a O
   |true=>
    right
    refine⟨J,i,O,n,g,?_⟩
    show c i l++[x]++[E l i d]=_
    rw[f,AY O,tU O,l7];rfl
  .rw[m];right;refine⟨J,k,O,t,u,?_⟩;show(ji d lt x l i).2++[E l i d]=_;rw[v,f,AY O,l7];rfl
def asw:∃k,k<=Z l/\(∀f,f<k->lt (E l f d)=ah)/\(k<Z l->lt (E l k d)=ae)/\sp d lt x l=c k l++x::aA k l:=by
 unfold sp;rcases af8 d lt x l (Z l) (aO _)with⟨a,g,i⟩|⟨a,k,p,m,n,o⟩
 .refine⟨Z l,aO _,i,λh=>O,?_⟩;rw[a,g,w D,List.drop_length]
 .refine⟨k,O,m,λ_=>n,?_⟩;rw[a,b J,o,fR]
end
def JX(x:V e×G)(l:V (V e×G)):V (V e×G):=sp ([],0) (λy=>decide<|ju x.1 y.1<0) x l
def asx x l:(JX x l).Perm (x::l):=afu _ _ _ _
def asy{x}{l}(t:l.Pairwise vd):(JX x l).Pairwise vd:=by
 let ⟨k,K,v,A,B⟩:=asw ([],0) (λy:V e×G=>decide<|ju x.1 y.1<0) x l;rw[JX,B];have C:(c k l++aA k l).Pairwise vd:=by rw[sI];exact t
 let ⟨p1,i,H⟩:=xZ.1 C;have g:∀j(d:j<Z l),E l j ([],0)=l[j]:=λj d=>by rw[aK,cO d];rfl
 have m:∀y∈c k l,vd y x:=λy a=>by
  obtain⟨j,d,rfl⟩:=La a;have n:j<k:=by rw[eL]at d;omega
  have f:=a6<|v j n;rw[g j O]at f;rw[qk];show FY _ _<=0;rw[aeX];show-(ju x.1 _)<=0;omega
 have o:∀y∈aA k l,vd x y:=λy a=>by
  have p:k<Z l:=eZ λt=>by rw[tU O]at a;cases a
  have f:=aU<|A p;rw[g k p]at f;have u:vd x l[k]:=Int.le_of_lt f;rw[rK p]at a i;rcases b9.1 a with rfl|a
  .exact u
  .exact asu u<|(jR.1 i).1 y a
 refine xZ.2 ⟨p1,jR.2 ⟨o,i⟩,λy a z s=>?_⟩;rcases b9.1 s with rfl|s
 .exact m y a
 .exact H y a z s
def q7(l:V (V e×G)):V (V e×G):=l.foldl (λo x=>JX x o) []
def af9 l x:q7 (l++[x])=JX x (q7 l):=by rw[q7,List.foldl_append];rfl
def VU:∀(n:Y)(l:V (V e×G)),Z l=n->(q7 l).Perm l/\(q7 l).Pairwise vd
 |0,l,d=>by rw[eT d];exact⟨List.Perm.refl _,List.Pairwise.nil⟩
 |n+1,l,d=>by
  have a:l≠[]:=λf=>by rw[f]at d;cases d
  have f:l=l.dropLast++[l.getLast a]:=(Vz a).symm;let ⟨i1,i2⟩:=VU n l.dropLast (by rw[List.length_dropLast];omega);rw[f,af9];exact⟨(asx _ _).trans<|((List.Perm.cons _ i1)).trans (List.perm_append_singleton _ _).symm,asy i2⟩
def asz{a}(x:jt a)(hq:∀i,QS 20 (E a i 0)):∃s:V (V G),(∀bf∈s,aJ bf/\Rx.bq (Rx.zx bf))/\Rx.pO s=Rx.zx (dV a)/\r q 141 [I .q a] (I (.sl .q)<|s.map<|kJ<|dU a):=by
 have l2:=x.l2;have l9:=x.l9;let ⟨p,⟨hp,p3,U⟩,T⟩:=Vy (P:=λp=>dO p/\3<=p/\FU p (dV a)=ae) (by let ⟨p,n,m,_,h4⟩:=x.af5;exact⟨p,n,m,h4⟩);have hp9:p<2304:=by let ⟨l,n,m,B,h4⟩:=x.af5;exact vW (eZ λhc=>T l eR ⟨n,m,h4⟩) B
 have t:=x.mf;have H:br p:=⟨hp,eR⟩;have M:pT p (dV a):=⟨H,t.am,t.l2,t.l9,(aeo H _).1 U⟩;have sf:Z (dV a)=Z a:=Ap a;have K:aN (md p<|dV a)=md p (dV a):=M.trim;let ⟨f1,f2,f3⟩:=M.f;have gM:md p (dV a)≠[]:=f1.ne;let ⟨L,hL,asA⟩:=ara H eR (a:=md p<|dV a) eR (λi=>(BP H.pos (dV a) i).1) (by rw[MY,K];exact gM) (λd hd=>by rw[MY,K,f2,sf]at hd;have n:d<=4:=eR;have m:p^d<=2304^4:=bm (zR eR d)<|eQ D n;omega);rw[MY,K]at hL;have Hi:(Fx.fx (lR p<|md p<|dV a):Fx p)=Fx.fx (dV a):=by have e:=(Fx.NT H f1.c gM).2.2.2.2;rw[f1.one,Fx.oC,Fx.one_mul,f3]at e;exact e.symm
 rw[Hi]at hL;let ⟨A,hi⟩:=M.ob hL;have hL8:Z L<=8:=by have:=(Vd λf hf=>(A.ok f hf).2).1;have:=A.fl;rw[cy]at*;omega
 let ⟨k1,k2,k3⟩:=aep (p:=p) eR<|2*gR (dV a);let ⟨m1,m2⟩:=t.mBp (p:=p) eR eR;have hlX:=arD H A (u:=9) (w:=9) k1 eR (λi=>(t.aB i).le eR) m1 eR eR eR;have O:=afK H k1 _ _ A;have C:=M.cbX hL k1 k2 O;let ⟨G1,G2⟩:=g5.all (p:=p) 8 VV (λe=>by have n:=A.fl;rw[<-O.Pf.2,e]at n;have m:Z (dV a)=1:=n;omega) C;have Rp:=afU (w:=9) D D m1 8 (dV a) _ D VV (λe=>by
  have n:=A.fl;rw[<-O.Pf.2,e]at n;have m:Z (dV a)=1:=n;omega) VV eR C (λf hf i=>by
  let ⟨_,_,_,_,_,f4⟩:=O.mem hf;rw[<-f4 i];exact SP (nH H.pos) m1)
 refine⟨_,G1,G2,?_⟩;have Ao:=VQ ((p:G)^nE p (2*gR (dV a))) 8 (dV a)<|sr p (nE p<|2*gR (dV a)) (dV a)<|L.map (·.1);generalize sc ((p:G)^nE p (2*gR (dV a))) 8 (dV a) (sr p (nE p<|2*gR (dV a)) (dV a)<|L.map (·.1))=s at*;have hGB:∀g∈s,Z g<=12/\∀i,aH 210 (E g i 0):=λg hgm=>by
  let ⟨g1,g2⟩:=G1 g hgm;have hd:Rx.zx g∣Rx.zx (dV a):=by rw[<-G2];exact aeH hgm
  have hb:=λi=>aen t.am g1 hd i
  refine⟨?_,λi=>?_⟩
  .have n:=Rx.jJ hd (by rw[<-G2];exact(aeI λg U=>(G1 g U).2).1);rw[Rx.ln g1.can,Rx.ln t.am.can]at n;omega
  .have n:=t.bB;have m:=hb i;have:aH 8 (E g i 0):=by unfold aH at*;omega
   exact this.le eR
 generalize hX:sr p (nE p<|2*gR (dV a)) (dV a) (L.map (·.1))=X at*;have hfB:∀i,aH 201 (E (p8 a) i 0):=λi=>by
  by_cases hi:i<Z a
  .rw[JV a hi];exact af1 x hq hi
  .rw[fp _ (by rw[Ax];omega)];exact aH.zero _
 have B9:=arJ (p8 a) (by rw[Ax];omega) (by rw[Ax];omega)<|λi=>(hfB i).le eR;rw[asj x]at B9;have Gw:∀g∈s,r q 180 [I .z g,.a<|av .z<|E (p8 a) (af<|(Z (p8 a):G)-1) 0] (I .q<|kJ (dU a) g):=λg U=>by
  have e:E (p8 a) (af<|(Z (p8 a):G)-1) 0=((dU a:Y):G):=by rw[Ax,(eR:af ((Z a:G)-1)=Z a-1),JV a eR,Pc x]
  have n:=hfB<|af<|(Z (p8 a):G)-1;rw[e]at n⊢;exact arL g (dU a) (FX a _) (hGB g U).1 (hGB g U).2<|n.le eR
 have FN:=arI (dV a) 6 D eR t.aB;have hBS:Sm ((gR (dV a):Y):G):=by have n:=t.bB;exact(show aH 8 _ by unfold aH at*;omega:aH 8 ((gR (dV a):Y):G)).sm eR
 have had:=xq ((gR (dV a):Y):G) ((gR (dV a):Y):G) hBS hBS;have hil:=asm x hq;have jC:=Ax a;generalize p8 a=f0 at*;have v:=aaq<|dV a;have hsS:∀i,Sm (E (dV a) i 0):=λi=>(t.aB i).sm D
 refine aI Tryz.func141 ?_;refine N J<|bt J J hil J<|F<|rc J J B9<|z J<|N J ?_;generalize dV a=S at*;refine j<|au<|a8 (α:=Y) (λl=>⟨[(3,I .z f0),(4,I .z S),(5,cU l)],[],4,[]⟩) (λl=>dO l/\3<=l/\l<=p) (λl=>p-l) 3 ⟨⟨D,λd n m=>absurd (mL n n) eR⟩,aO _,p3⟩ (wk ⟨sR J,sR J,sE J J,h⟩ h) ?_;rintro l ⟨q1,q2,q3⟩;have W:(0:G)<(l:G):=eR;have v:=aaq S l eR eR eR hsS;have Jx:bA l (aN<|md l S):=k7 W<|BP W S;have Cv:bA l (aN<|jM l<|aN<|md l S):=k7 W<|JI eR _;have Tz:Z (aN<|md l S)<=9:=by have:=py<|md l S;rw[xD]at this;omega
 have TA:Z (aN<|jM l<|aN<|md l S)<=9:=by have:=py<|jM l<|aN<|md l S;have:=JH l<|aN<|md l S;omega
 have hde:=afi (aN<|md l S) l eR eR eR Jx.1;have hgc:=EX l q1 eR _ _ eR eR Jx Cv;refine j<|F<|rc J J v<|rc J J v<|rc J J hde<|rc J J hgc<|z J<|al J (λn=>?_)<|λn=>?_
 .have n:(Z (gy l (aN<|md l S)<|aN<|jM l<|aN<|md l S):G)≠1:=bne_iff_ne.1 n;have Q:FU l S=ah:=nr λe=>n sJ
  have b:l<p:=Nat.lt_of_le_of_ne q3 λe=>by rw[e,U]at Q;cases Q
  let ⟨bf,r1,r2,r3,r4,r5⟩:=alR l eR;refine aD<|au<|bt J J r5 J<|rt J<|eE<|aT bf ⟨r1,eR,vj λe=>r4 p b e hp⟩ (eR:p-bf<p-l) aM
 .have n:((Z (gy l (aN<|md l S)<|aN<|jM l<|aN<|md l S):G) !=1)=ah:=n;have Q:FU l S=ae:=o9 (by have m:=bne_eq_false_iff_eq.1 n;omega);have b:l=p:=Nat.le_antisymm q3<|vj λe=>T l e ⟨q1,q2,Q⟩;subst b;refine a7<|aL ?_;rw[K]at v;refine F<|rc J J v<|rc J J asA<|z J<|F<|fT (.sl aw) [] J J (z J<|j<|N J ?_);refine au<|a8 (α:=Y×V (V G)) (λy=>⟨[(3,I .z f0),(4,I .z S),(5,cU l),(8,.c<|.S MT L),(10,.c<|.X 6000000),(11,R y.1)],[(6000000,.vec 167 (.sl aw) y.2)],8,[]⟩) (λy=>y.1<=Z L/\y.2=(c y.1 L).map (·.1)) (λy=>Z L-y.1) (0,[]) ⟨aY _,J⟩ aM ?_;rintro⟨i,o⟩ ⟨i1,i2⟩;simp only at i1 i2;have ho:Z o<=9:=by rw[i2,cy,eL];omega
  refine j<|N J<|al J (λm=>?_)<|λm=>?_
  .have m:i<Z L:=by have m:(i:G)<(Z L:G):=aU m;omega
   have ei:af ((i:G))=i:=bY i;refine aD<|j<|au ?_;refine cu<|rl (.sl aw) [_] J J (ra J J J J J J J J J ?_ ?_<|z J ?_) (hp:=aF)
   .show(Z o+1+(Z o+1)/4+192)*24<=_;omega
   .show(Z o+1)*1<=_;omega
   refine bw<|rt J (hp:=aF)<|aT (i+1,o++[(E L (af<|(i:G)) d0M).1]) ⟨m,?_⟩ (eR:Z L-(i+1)<Z L-i)<|Wk.trans (wk (st':=⟨[(3,I .z f0),(4,I .z S),(5,cU l),(8,.c<|.S MT L),(10,.c<|.X 9007000),(11,R ((i+1:Y):G))],[(9007000,.vec 167 (.sl aw)<|o++[(E L (af<|(i:G)) d0M).1])],20,[]⟩) (bO J) ⟨bR J,h⟩)<|Wk.trans (fU 6000000 9007000 J J J) aM;show o++[_]=(c (i+1) L).map (·.1);rw[ei,i2,sH,fM,aK,cO m];rfl
  .have m:i=Z L:=by have m:¬(i:G)<(Z L:G):=a6 m;omega
   rw[m,fR]at i2;subst i2;refine a7<|aL ?_;refine cY 6000000 J J J ?_;refine F<|rc J J FN<|rc J J FN<|rc J J had<|z J<|N J ?_;have hpw:∀na:Y,((l:G)^na<=((gR S:Y):G)+((gR S:Y):G)↔l^na<=2*gR S):=λna=>by rw[<-uv];omega
   refine j<|au<|a8 (α:=Y) (λk=>⟨[(3,I .z f0),(4,I .z S),(5,cU l),(10,I (.sl aw)<|L.map (·.1)),(12,.c<|.P 9005000 0),(13,R k)],[(9005000,.box 42 0<|av .z<|((gR S:Y):G)+((gR S:Y):G))],11,[]⟩) (λk=>1<=k/\k<=nE l (2*gR S)) (λk=>nE l (2*gR S)-k) 1 ⟨aO _,k1⟩ aM ?_;rintro k ⟨e1,e2⟩;refine j<|F<|rc J J (SO l k eR eR)<|rc J J (LS _ _)<|z J<|al J (λB=>?_)<|λB=>?_
   .have B:=(hpw k).1<|aeF.1<|aU B;have h4:k≠nE l (2*gR S):=λe=>by rw[e]at B;omega
    refine aD<|au<|rt J (hp:=aF)<|eE<|aT (k+1) ⟨eR,eR⟩ (eR:nE l (2*gR S)-(k+1)<nE l (2*gR S)-k) aM
   .have B:¬l^k<=2*gR S:=λe=>a6 B (aeF.2<|(hpw k).2 e)
    have h4:k=nE l (2*gR S):=Nat.le_antisymm e2<|vj λe=>B<|k3 k e1 e;subst h4;refine a7<|aL ?_;refine F<|rc J J hlX<|rc J J (SO l _ eR eR)<|rc J J Rp<|z J<|F<|fT (.sl .q) [] J J (z J<|j<|N J ?_);refine au<|a8 (α:=Y×V (V Rat)) (λy=>⟨[(3,I .z f0),(14,I (.sl .z) s),(15,.c<|.X 13000000),(16,R y.1)],[(13000000,.vec 29 (.sl .q) y.2)],15,[]⟩) (λy=>y.1<=Z s/\y.2=(c y.1 s).map (kJ<|dU a)) (λy=>Z s-y.1) (0,[]) ⟨aY _,J⟩ aM ?_;rintro⟨i,o⟩ ⟨i1,i2⟩;simp only at i1 i2;have ho:Z o<=9:=by rw[i2,cy,eL];omega
    refine j<|N J<|al J (λm=>?_)<|λm=>?_
    .have m:i<Z s:=by have m:(i:G)<(Z s:G):=aU m;omega
     have hm:E s (af<|(i:G)) (ET.dE<|.sl .z)=s[i]:=by rw[bY,aK,cO m];rfl
     have hb:=Gw _<|sF m;rw[<-hm]at hb;refine aD<|j<|au ?_;refine cu<|rc J J hb (rl (.sl .q) [_] J J (ra J J J J J J J J J ?_ ?_<|z J ?_)) (hp:=aF)
     .show(Z o+1+(Z o+1)/4+192)*24<=_;omega
     .show(Z o+1)*1<=_;omega
     refine bw<|rt J (hp:=aF)<|aT (i+1,o++[kJ (dU a) (E s (af<|(i:G))<|ET.dE<|.sl .z)]) ⟨m,?_⟩ (eR:Z s-(i+1)<Z s-i)<|Wk.trans (wk (st':=⟨[(3,I .z f0),(14,I (.sl .z) s),(15,.c<|.X 16013000),(16,R ((i+1:Y):G))],[(16013000,.vec 29 (.sl .q)<|o++[kJ (dU a) (E s (af<|(i:G))<|ET.dE<|.sl .z)])],30,[]⟩) (bO J) ⟨bR J,h⟩)<|Wk.trans (fU 13000000 16013000 J J J) aM;show o++[_]=(c (i+1) s).map (kJ<|dU a);rw[hm,i2,sH,fM,cO m];rfl
    .have m:i=Z s:=by have m:¬(i:G)<(Z s:G):=a6 m;omega
     rw[m,fR]at i2;subst i2;refine a7<|aL ?_;refine cY 13000000 J J J ?_;exact N J<|cw J
def age{s t u}{a d}(n:bI a)(k:bI d)(f:d≠[])(o:Z a<=500)(p:Z d<=500)(l:Ht (2^t) (lx a))(m:Ht (2^u) (lx d))(g:t+(u+1)*(Z a+1-Z d)<32*s)(v:u<32*s):xK s a d:=by
 let ⟨q1,x,y⟩:=Fa k f l m;refine⟨o,p,k.ne f,λi=>m.qs (mU v) i,λj A i=>?_,λg=>(qM n).ne g,λi=>x.qs (mU g) i⟩;by_cases hl:Z d<=Z a
 .exact(y hl j A).qs (mU g) i
 .have:j=0:=by omega
  subst this;exact l.qs (mU O) i
def VW{t u}(l:t<=2000)(m:u<=2000){a b}(f:bI a)(g:bI b)(d:b≠[])(n:Z a<=9)(o:Z b<=9)(i:Ht (2^t) (lx a))(k:Ht (2^u) (lx b)):r q 116 [I .q a,I .q b] (I .q<|cM a b):=by have p:=bQ.2 d;have v:(u+1)*(Z a+1-Z b)<=(u+1)*9:=fN _ O;exact Nz (s:=100000000) O O f d<|age f g d O O i k O O
def agf{t}(x:t<=2000){a b}(l:bI a)(d:bI b)(p:a≠[])(y:Z a<=9)(A:Z b<=9)(m:Ht (2^t) (lx a))(n:Ht (2^t) (lx b)):∃g,r q 131 [I .q a,I .q b] (I .q g)/\bI g/\IL (lx g) (lx a) (lx b):=by
 let ⟨B,g2,u⟩:=aa3 (k:=Z b+1) l d O p;obtain⟨s,C⟩:∃s,s=100000000:=⟨_,J⟩;have f:zt s (Z b+1) a b/\(∀i,QS s (E (fg (Z b+1) a b) i 0))/\Z (fg (Z b+1) a b)<=500:=by
  rw[zt,fg];split
  .rename_i e;exact⟨.inl e,λi=>m.qs (mU O) i,O⟩
  .rename_i e;have H:=bQ.2 e;let ⟨q1,v,K⟩:=Fa d e m n;have L:(t+1)*(Z a+1-Z b)<=(t+1)*9:=fN _ O;have o:3^Z b<=19683:=bm (eQ D (O:Z b<=9)) D;let ⟨i1,i2,i3⟩:=aa8 (s:=s) (Z b) (t+(t+1)*(Z a+1-Z b)) b (dr<|cx a b) d (pJ _) (by rcases Nu (a:=a) e with h|h;omega;rw[h,nb];omega) ((Nu (a:=a) e).symm) O
    (n.le<|eQ D<|Nr _ _) (Tm (qM l) v) (by refine bm (fN _ o) ?_;omega)
   exact⟨.inr ⟨age l d e O O m n O O,i1⟩,i2,i3⟩
 exact⟨_,am3 O O (Z b+1) a b l d f.1 O f.2.1,g2,u⟩
def kR(n:Y):Y->Y:=λm=>m-n
def agh n L:pF (kR n) L=pF (kW<|n+1) L*pF (kR<|n+1) L:=by rw[<-B1];exact xP λx _=>by unfold kW kR;split<;>omega
def asH{L}(a:FL L){n}{d}(k:IL d (pF (kW n) L) (pF (kR n) L)):d=pF (kW<|n+1) L:=by
 let ⟨d1,d2,d3,U,V,d4⟩:=k;refine d1.eq (wh a.mo) ?_ ?_
 .have f:Co d (pF (kP n) L):=E5 d1.ne λQ g q1 l=>by
   let ⟨x,hx,u,m⟩:=zA g l;let ⟨z,i,o,p⟩:=zA g<|dvd_trans q1 d3;have s:x.2=n:=Tc.1 (by have:=IM n x.2;omega);have v:n<z.2:=by unfold kR at o;omega
   have t:x.1=z.1:=(a.fI x hx).eq (a.fI z i) (a.mo x hx) (a.mo z i)<|dvd_trans (g.assoc (a.fI x hx) m) p;exact FL.Tb a.B0 hx i (λe=>by rw[e]at s;omega) t
  rw[Td]at d2;exact f.dvd d2
 .rw[d4];exact dvd_add (dw (by rw[Td n L];exact dvd_mul_left _ _) _)<|dw (by rw[agh n L];exact dvd_mul_right _ _) _
def asI{a}(f:bI a)(d:2<=Z a):bI (tf a):=by
 right;rw[SU,aaD O,(O:Z a-1-1+1=Z a-1)];have g:=f.ne (λe=>by rw[e]at d;simp at d);intro e;rcases zv.1 e with e|e
 .have:((Z a-1:Y):G)=0:=by exact_mod_cast e
  omega
 .exact g e
def asJ{a:Y->Y}(d:∀m,a m<=m) L:pF a L∣pF id L:=by refine⟨pF (λm=>m-a m) L,?_⟩;rw[<-B1];exact xP λx _=>by have:=d x.2;show x.2=_;omega
def CW:Y->Y->V e->V e->V (V e×G)->V (V e×G)->Prop
 |0,_,_,_,_,_=>False
 |k+1,n,a,y,acc,out=>if 1<Z a then∃p g d,
   r q 131 [I .q a,I .q y] (I .q p)/\r q 116 [I .q a,I .q p] (I .q g)/\r q 116 [I .q y,I .q p] (I .q d)/\
   CW k (n+1) p d (if 1<Z g then acc++[(g,(n:G))]else acc) out
  else out=acc
def asK(a t y:V e) out(Q:Z a<=9)(v:¬Z a<2){d g A:V e}(B:r q 132 [I .q a] (I .q d))(H:r q 131 [I .q a,I .q d] (I .q g))(L:r q 29 [I .q a] (I .q A))(M:r q 116 [I .q A,I .q g] (I .q t))
  (P:CW (Z a) 1 t g [] out):r q 140 [I .q a] (I UT out):=by
 refine aI Tryz.func140 ?_
 refine N J<|F<|fT UT [] J J (z J<|j<|N J<|al J (λu=>?_)<|λ_=>aD ?_)
 .have u:(Z a:G)<2:=aU u;exact absurd u O
 refine F<|rc J J B<|rc J J H<|z J<|F<|rc J J L<|rc J J M<|z J<|j<|N J ?_
 refine au<|a8 (α:=Y×Y×V e×V e×V (V e×G)) (λx=>⟨[(3,.c<|.X 1000000),(4,I .q x.2.2.2.1),(5,I .q x.2.2.1),(6,R x.2.1)],[(1000000,.vec 114 UT x.2.2.2.2)],7,[]⟩) (λx=>CW x.1 x.2.1 x.2.2.1 x.2.2.2.1 x.2.2.2.2 out/\Z x.2.2.2.2<x.2.1/\x.2.1+x.1<=20) (λx=>x.1) (Z a,1,t,g,[]) ⟨P,Nat.zero_lt_one,(O:1+Z a<=20)⟩ aM ?_
 rintro⟨k,n,t,y,i⟩ ⟨l,v,C⟩
 simp only at l v C
 cases k with
 |zero=>exact absurd l<|λu=>u
 |succ k=>
  rw[CW]at l
  refine j<|N J<|al J (λm=>?_)<|λm=>?_
  .have m:1<Z t:=by have m:(Z t:G)>1:=aU m;omega
   rw[b m]at l;let ⟨p,f,K,d1,d2,d3,l⟩:=l;refine cP<|aL<|j<|au<|F<|rc J J d1<|z J<|F<|rc J J d2<|z J<|jH ⟨[(3,.c<|.X 1000000),(4,I .q y),(6,R n),(7,I .q p)],[(1000000,.vec 114 UT (if 1<Z f then i++[(f,(n:G))]else i))],30,[]⟩ ?_<|λo=>N J<|al J (λs=>?_)<|λs=>cP ?_
   .refine N J<|cu<|rc J J d3<|z J<|bw<|rt J (hp:=aF)<|aT (k,n+1,p,K,if 1<Z f then i++[(f,(n:G))]else i) ⟨l,?_,by show n+1+k<=_;omega⟩ (dK k) aM;show Z (if 1<Z f then i++[(f,(n:G))]else i)<n+1;split
    .rw[iq];show Z i+1<_;omega
    .omega
   .have s:1<Z f:=by have s:(Z f:G)>1:=aU s;omega
    rw[b s]at o;refine cu<|rl UT [(f,(n:G))] J J (ra J J J J J J J J J ?_ ?_<|z J ?_)
    .show(Z i+1+(Z i+1)/4+192)*32<=_;omega
    .show(Z i+1)*2<=_;omega
    .exact dB o<|Wk.trans (wk (st':=⟨[(3,.c<|.X 11005000),(4,I .q y),(6,R n),(7,I .q p)],[(11005000,.vec 114 UT<|i++[(f,(n:G))])],12,[]⟩) (bO J) ⟨bR J,h⟩)<|Wk.trans (fU 1000000 11005000 J J J) aM
   .have s:¬1<Z f:=by have s:¬(Z f:G)>1:=a6 s;omega
    rw[w s]at o;exact dB o aM
  .have m:¬1<Z t:=by have m:¬(Z t:G)>1:=a6 m;omega
   rw[w m]at l;rw[l];exact nN<|rA<|ou<|nO<|aL<|cY 1000000 J J J<|N J<|bL<|atR J
def asL{t}(ht:t<=1500){a}(ha:bI a)(h0:a≠[])(la:Z a<=9)(hA:Ht (2^t) (lx a)){L}(M:FL L)(hF:pF id L=lx (dr a))(hD:∀uX,Mo uX->uX∣pF id L->Ht (2^t) uX):
  ∃B,r q 140 [I .q a] (I UT B)/\B.map (λp=>(lx p.1,p.2))=n5 L (Z a) 1/\∀p∈B,bI p.1:=by
 have hl:=bQ.2 h0
 have lm:=B4 ha
 have kM:sz (pF id L)=Z a:=by rw[hF,fY<|pJ a,lm]
 have P:∀{c:Y->Y}{o:V e},(∀m,1<=m->c m<=m)->bI o->lx o=pF c L->Z o<=9/\o≠[]/\Ht (2^t) (lx o)/\Mo (lx o):=λ{c o} hc Q dN=>by
  have e2:pF c L=pF (λm=>min (c m) m) L:=xP λx H=>by have:=hc x.2<|M.pos x H;show _=min _ _;omega
  have hm:Mo (lx o):=by rw[dN];exact wh M.mo
  have hd:lx o∣pF id L:=by rw[dN,e2];exact asJ (λm=>Nat.min_le_right _ _) L
  have v:=jJ hd (wh M.mo).ne;rw[fY Q,kM]at v;exact⟨O,λdN=>by rw[dN,kE]at hm;exact hm.ne J,hD _ hm hd,hm⟩
 by_cases h2:Z a<2
 .have H:∀x∈L,x.2<1:=λx H=>by have:=Tq M H;omega
  refine⟨[],?_,by rw[To _ H];rfl,λp hp=>by cases hp⟩;refine aI Tryz.func140 ?_;refine N J<|F<|rl UT [] J J (z J<|j<|N J<|al J (λ_=>?_)<|λh=>?_)
  .exact N J<|bL<|cK<|atR J
  .have h:¬(Z a:G)<2:=a6 h;exact absurd h O
 have qd:=asI ha O
 have ed:lx (tf a)=bC (lx a):=amL a
 have ld:=SU a
 have td:Ht (2^(t+4)) (lx<|tf a):=by rw[ed];exact(hA.bC (n:=9) (by rw[fY ha];omega) O).le (by rw[k4,gG];exact fN _ D)
 have c1:=amW (k:=100000000) a O (λi=>hA.qs (mU O) i) O O
 generalize tf a=d at*
 have lift:∀{a Ak:Y}{A:Rx},Ht (2^a) A->a<=Ak->Ht (2^Ak) A:=λh Qc=>h.le<|eQ D Qc
 let ⟨g,c2,qg,gg⟩:=agf (t:=t+4) (a:=a) (b:=d) O ha qd h0 O O (lift hA O) td
 obtain⟨c,ec⟩:∃c,c=(E a (Z a-1) 0)⁻¹ :=⟨_,J⟩
 have hc0:c≠0:=by rw[ec];exact r8<|ha.ne h0
 have eM:lx (dr a)=K c*lx a:=by rw[uI h0,ec]
 have gF:IL (lx g) (pF id L) (bC<|pF id L):=by let ⟨g1,g2,g3,U,CU,g4⟩:=gg;rw[hF,eM,IE];rw[ed]at g3 g4;refine⟨g1,dw g2 _,dw g3 _,U*K c⁻¹,CU*K c⁻¹,?_⟩;have e1:U*K c⁻¹ *(K c*lx a)+CU*K c⁻¹ *(K c*bC (lx a))=(K c⁻¹ *K c)*(U*lx a)+(K c⁻¹ *K c)*(CU*bC (lx a)):=fG;rw[e1,pH hc0,one_mul,one_mul];exact g4
 let ⟨eg,_⟩:=amK M gF
 have eg:lx g=pF (kR 1) L:=eg
 have hkW:∀n m,1<=m->kW n m<=m:=λn m h=>bm (aaX n m) h
 have hkR:∀n m,1<=m->kR n m<=m:=λn m _=>Nat.sub_le _ _
 let ⟨g9,g0,tg,mg⟩:=P (hkR 1) qg eg
 have c3:=Nv (k:=100000000) a O (λi=>hA.qs (mU O) i) (λ_=>ha.ne h0) O
 have c4:=VW (t:=t) (u:=t) (a:=dr a) (b:=g) O O (pJ a) qg g0 O g9 (by rw[<-hF];exact hD _ (wh M.mo)<|dvd_refl _) tg
 have ewq:lx (cM (dr a) g)=pF (kW 1) L:=zw mg.ne ((zE (pJ a) qg g0<|hF▸gF.l).symm.trans<|by rw[<-hF,Te M,eg];rfl)
 have qw:=zD (dr a) g
 generalize cM (dr a) g=w1 at*
 have run:∀(k n:Y)(o y:V e)(C:V (V e×G)),n+k=Z a+1->1<=k->1<=n->bI o->bI y->lx o=pF (kW n) L->lx y=pF (kR n) L->∃s,CW k n o y C (C++s)/\s.map (λp=>(lx p.1,p.2))=n5 L k n/\∀p∈s,bI p.1:=by
  intro k;induction k with
  |zero=>intro n o y C _ h;omega
  |succ k ih=>
   intro n o y C hnk _ hn Q hy W ey
   let ⟨w9,w0,tw,mw⟩:=P (hkW n) Q W
   let ⟨y9,y0,ty,my⟩:=P (hkR n) hy ey
   by_cases hc:1<Z o
   .obtain⟨x,H,hxn⟩:∃x∈L,n<=x.2:=eZ λX=>by
     have e1:pF (kW n) L=1:=Nk λx H=>w λh=>X ⟨x,H,h⟩
     rw[e1]at W;have:=fY Q;rw[W,r7]at this;omega
    have CL:=Tq M H;let ⟨p,d1,R,gp⟩:=agf (t:=t) (a:=o) (b:=y) O Q hy w0 w9 y9 tw ty;rw[W,ey]at gp;have ep:=asH M gp;let ⟨p9,p0,tp,mp⟩:=P (hkW<|n+1) R ep;have d2:=VW (t:=t) (u:=t) O O Q R p0 w9 p9 tw tp;have d3:=VW (t:=t) (u:=t) O O hy R p0 y9 p9 ty tp;have eg2:lx (cM o p)=pF (kP n) L:=zw mp.ne ((zE Q R p0<|by rw[W];exact gp.l).symm.trans<|by rw[W,ep];exact Td n L);have ez:lx (cM y p)=pF (kR<|n+1) L:=zw mp.ne ((zE hy R p0<|by rw[ey];exact gp.r).symm.trans<|by rw[ey,ep,mul_comm<|pF (kR<|n+1) L];exact agh n L);have qg2:=zD o p;have qz:=zD y p;generalize cM o p=f at*;generalize cM y p=iC at*;let ⟨s,S,o2,o3⟩:=ih (n+1) p iC (if 1<Z f then C++[(f,(n:G))]else C) O O O R qz ep ez;have Jv:sz (pF (kP n) L)=Z f:=by rw[<-eg2,fY qg2]
    refine⟨(if 1<Z f then[(f,(n:G))]else[])++s,?_,?_,?_⟩
    .rw[CW,b hc];refine⟨p,f,iC,d1,d2,d3,?_⟩;by_cases v:1<Z f
     .rw[b v]at S⊢;rw[b v,<-l7];exact S
     .rw[w v]at S⊢;rw[w v];exact S
    .rw[n5,fM,o2,Jv];by_cases v:1<Z f
     .rw[b v,b v,il,JU,eg2]
     .rw[w v,w v];rfl
    .intro qx T;rcases bg.1 T with T|T
     .by_cases v:1<Z f
      .rw[b v,iK]at T;rw[T];exact qg2
      .rw[w v]at T;cases T
     .exact o3 qx T
   .have X:∀x∈L,x.2<n:=λx H=>Nat.lt_of_not_le λh=>by have v:=jJ (IK (c:=kW n) H<|by rw[Nl.2 h];omega) (wh M.mo).ne;have h2:=(M.fI x H).1;rw[<-W,fY Q]at v;omega
    refine⟨[],?_,by rw[To _ X];rfl,λp hp=>by cases hp⟩;rw[CW,w hc,iD]
 let ⟨B,S,o2,o3⟩:=run (Z a) 1 w1 g [] O O O qw qg ewq eg
 exact⟨B,asK a w1 g B la h2 c1 c2 c3 c4 S,o2,o3⟩
open Classical in
noncomputable def lX(d:V e):V (V e):=if f:∃a,((∀u∈a,E u (Z u-1) 0=1/\bI u/\Mo (lx u)/\bq (lx u))/\ob a=lx d)/\r q 141 [I .q d] (I (.sl .q) a)then Classical.choose f else[]
def agm{a}(f:jt a)(g:∀i,QS 20 (E a i 0)):((∀u∈lX a,E u (Z u-1) 0=1/\bI u/\Mo (lx u)/\bq (lx u))/\ob (lX a)=lx a)/\r q 141 [I .q a] (I (.sl .q)<|lX a):=by let ⟨G,k,g2,l⟩:=asz f g;have e:∃d,((∀u∈d,E u (Z u-1) 0=1/\bI u/\Mo (lx u)/\bq (lx u))/\ob d=lx a)/\r q 141 [I .q a] (I (.sl .q) d):=⟨_,f.unG k g2,l⟩;unfold lX;rw[dif_pos e];exact wb e
def asO{ir:V e->V (V e)}{a}{i}(f:i<Z a):gh ir (c (i+1) a)=gh ir (c i a)++(ir (E a i yf).1).map (λu=>(u,(E a i yf).2))/\∃C,gh ir a=gh ir (c (i+1) a)++C:=by
 have d:c (i+1) a=c i a++[E a i yf]:=by rw[sH,aK,cO f];rfl
 refine⟨?_,gh ir<|aA (i+1) a,?_⟩
 .rw[d,gh,gh,D5];simp
 .rw[gh,gh,gh,<-D5,sI]
def asP{a:V e}(l:oc a):∃M,aeN a M/\Z M<=8/\(∀x∈M,FZ 20 x)/\r q 87 [I .q a] (.t [(ae,av .q<|E a (Z a-1) 0),(ah,[.S UT M]),(ah,[.I .i64 0])]):=by
 let ⟨L,hL,K⟩:=Rx.aaW _ (Rx.lx<|dr a) (dK _) l.mo;let ⟨out,o1,o2,o3⟩:=asL (t:=1500) O l.can l.ne l.l9 l.hA hL K<|λuX hD hd=>(l.ht hD<|K▸hd).le<|Rx.Nt 1500 (k:=600) D;let ⟨p1,Q,p3,p4,p5,p6⟩:=l.aqC (ir:=lX) (λqx l hq=>(agm l hq).1) hL K o2 o3;let ⟨a1,a2⟩:=VU _ (gh lX out) J;refine⟨q7<|gh lX out,⟨λx T=>p4 x<|a1.mem_iff.1 T,by rw[aqv a1,p5],a1.symm.pairwise p6 (λl U=>l U.symm),asv a2⟩,by rw[a1.length_eq];exact Q,λx T=>p3 x<|a1.mem_iff.1 T,?_⟩;refine aI Tryz.func87 ?_;have la:=bQ.2 l.ne;have l9:=l.l9;have Hb:Z out<=9:=by have h1:=aeZ (L:=L) (Z a) 1;rw[<-o2,cy]at h1;omega
 refine N J<|j<|N J<|al J (λh1=>?_)<|λ_=>aD ?_
 .exfalso;have h1:((Z a:G)==0)=ae:=h1;have:=eq_of_beq h1;omega
 refine j<|N J<|al J (λh1=>?_)<|λ_=>aD ?_
 .exfalso;have h1:(Z a:G)>13:=aU h1;omega
 refine F<|rl UT [] J J (z J<|bt J J o1 J<|j<|N J ?_);refine au<|a8 (α:=Y) (λi=>⟨[(0,I .q a),(2,.c<|.P 0 0),(5,I UT<|q7<|gh lX<|c i out),(6,I UT out),(7,R i)],[(0,.box 44 0 [.B ah,.V<|.slice none 0 0,.B ah,.V<|.slice none 0 0])],20,[]⟩) (λi=>i<=Z out) (λi=>Z out-i) 0 (aY _) (wk ⟨sR J,sR J,sE J J,sR J,sR J,h⟩ ⟨bE J J,h⟩) ?_;intro i hi;refine j<|N J<|al J (λh1=>?_)<|λh1=>?_
 .have h1:i<Z out:=by have h1:(i:G)<(Z out:G):=aU h1;omega
  have W:i+1<=Z out:=h1;have X:(E out (af<|(i:G))<|ET.dE UT)=E out i yf:=be (λb=>E out b yf)<|bY i;let ⟨g1,g2,g3⟩:=p1 (E out i yf) O9;have v:=(agm g1 g2).2;let ⟨o,C,w⟩:=asO (ir:=lX) h1;rw[<-X]at v o;generalize Lr:lX (E out (af<|(i:G))<|ET.dE UT).1=us at*;generalize hm:(E out (af<|(i:G))<|ET.dE UT).2=m at*;have mc:Z us<=8:=by have h3:=Q;rw[w,o,iq,iq,cy]at h3;omega
  refine aD<|j<|au<|F<|rc J J v (z J<|N J ?_) (hp:=aF);refine au<|a8 (α:=Y) (λd=>⟨[(0,I .q a),(2,.c<|.P 0 0),(5,I UT<|q7<|gh lX (c i out)++(c d us).map λu=>(u,m)),(6,I UT out),(7,R i),(8,I (.sl .q) us),(9,R d)],[(0,.box 44 0 [.B ah,.V<|.slice none 0 0,.B ah,.V<|.slice none 0 0])],30,[]⟩) (λd=>d<=Z us) (λd=>Z us-d) 0 (aY _) (wk ⟨sR J,sR J,sE J ?_,sR J,sR J,sR J,sR J,h⟩ ⟨bR J,h⟩) ?_
  .rw[H4,JU,iD]
  intro d hj;refine j<|N J<|al J (λn=>?_)<|λn=>?_
  .have n:d<Z us:=by have n:(d:G)<(Z us:G):=aU n;omega
   have A:(E us (af<|(d:G))<|ET.dE<|.sl .q)=us.getD d []:=be (λb=>us.getD b [])<|bY d;have htk:c (d+1) us=c d us++[us.getD d []]:=by rw[sH,aK,cO n];rfl
   have s:∀y∈gh lX (c i out)++us.map (λu=>(u,m)),FZ 20 y:=λy p=>p3 y (by rw[w,o];exact eH _ p)
   have H:∀y∈gh lX (c i out)++(c d us).map (λu=>(u,m)),FZ 20 y:=λy p=>s y (by
    rcases bg.1 p with p|p
    .exact eH _ p
    .obtain⟨u,hu,rfl⟩:=iJ.1 p;exact gD _<|Vt (f:=λu=>(u,m))<|vi hu)
   have hlen:Z (gh lX (c i out)++(c d us).map (λu=>(u,m)))<=8:=by have h3:=Q;rw[w,o,iq,iq,cy]at h3;rw[iq,cy,eL];omega
   let ⟨b1,_⟩:=VU _ (gh lX (c i out)++(c d us).map (λu=>(u,m))) J;have g:=arH (q7<|gh lX (c i out)++(c d us).map (λu=>(u,m))) (us.getD d [],m) (by rw[b1.length_eq];omega) (s _<|gD _<|Vt (f:=λu=>(u,m))<|by rw[aK,cO n];exact sF n)<|λy p=>H y<|b1.mem_iff.1 p;have g:r q 142 [I UT (q7<|gh lX (c i out)++(c d us).map (λu=>(u,m))),.a<|av UT (us.getD d [],m)] (I UT<|q7<|gh lX (c i out)++(c (d+1) us).map (λu=>(u,m))):=by rw[htk,fM,<-l7,il,JU,af9];exact g
   have g:r q 142 [I UT (q7<|gh lX (c i out)++(c d us).map (λu=>(u,m))),.a<|av UT (E us (af<|(d:G))<|ET.dE<|.sl .q,(E out (af<|(i:G))<|ET.dE UT).2)] (I UT<|q7<|gh lX (c i out)++(c (d+1) us).map (λu=>(u,m))):=by rw[A,hm];exact g
   refine aD<|j<|au<|cu<|rc J J g (z J<|bw<|rt J (hp:=aF)<|aT (d+1) n (O:Z us-(d+1)<Z us-d) aM) (hp:=aF)
  .have n:d=Z us:=by have n:¬(d:G)<(Z us:G):=a6 n;omega
   subst n;rw[fR,<-o];exact a7<|bw<|rt J (hp:=aF)<|aT (i+1) W (O:Z out-(i+1)<Z out-i) aM
 .have h1:i=Z out:=by have h1:¬(i:G)<(Z out:G):=a6 h1;omega
  subst h1;rw[fR];refine a7<|aL ?_;refine N J (hp:=aF)<|bU J ?_;have U:af ((Z a:G)-1)=Z a-1:=O;show AV.t [(ae,av .q<|E a (af<|(Z a:G)-1) 0),(ah,[C.S UT (q7<|gh lX out)]),(ah,[.I .i64 0])]=_;rw[U]
def Pg:V (V e×G)->Bool
 |[x]=>x.2==1
 |_=>ah
def asR{a}(d:Z a≠1):Pg a=ah:=by
 match a with
 |[]=>rfl
 |[x]=>exact absurd J d
 |x::y::l=>rfl
def asS{a:V e}{d:V (V e×G)}{f:e}(g:r q 87 [I .q a] (.t [(ae,av .q f),(ah,[.S UT d]),(ah,[.I .i64 0])])):r q 33 [I .q a] (cB<|Pg d):=by
 refine aI Tryz.func33 ?_;refine N J<|bt J J g J<|F<|rg 14 J J (λ_=>rg 19 J J (λh=>?_)<|λh=>?_)<|λh=>fE
 .have h:(Z d:G)=1:=eq_of_beq h;obtain⟨x,rfl⟩:=List.length_eq_one_iff.1 (O:Z d=1);exact z J<|bU J J
 .have h:(Z d:G)≠1:=nV h;exact z J<|bU J<|be cB (asR O).symm
def asT{a}(d:bI a):fC a=a:=oD (mT a) d<|tm a
structure CY(l:V G):Prop where
 l4:l.length<=4
 sm:∀x∈l,-128<=x/\x<=127
def VX(l:V G):E (l++[1]) (Z l) 0=1:=by simp[aK]
def VY l:bI ((l++[1]).map iQ):=ae0 (n:=Z l) az<|VX l
def agn{l}(f:CY l) i:∃d:G,aC d<=128/\E ((l++[1]).map iQ) i 0=(d:e):=by
 have:=CP (l++[1]) i;rw[fX]at this;refine⟨_,?_,this⟩;rw[aK];cases hx:(l++[1])[i]? with
 |none=>decide
 |some x=>
  have a:=LH hx
  rcases bg.1 a with a|a
  .have:=f.sm x a;show aC x<=128;omega
  .have:x=1:=by simpa using a
   subst this;decide
def ago{l}(a:CY l):Ht (2^7) (lx<|(l++[1]).map iQ):=⟨1,D,D,λi=>by let ⟨z,d,h2⟩:=agn a i;exact⟨z,d,by rw[fX,h2];exact rZ _⟩⟩
def asU{l}(a:CY l) i:QS 1 (E ((l++[1]).map iQ) i 0):=(ago a).qs (mU D) i
def agp l(a:CY l):wj (l++[1]) 4=(l++[1]).map iQ:=by rw[wj,iY (by rw[iq,s3];have:=a.l4;omega),asT<|VY l]
structure df(m:V e):Prop where
 can:bI m
 top:m.getD (m.length-1) 0=1
 l2:2<=m.length
 l5:m.length<=5
 fI:bq (lx m)
 ht:Ht (2^7) (lx m)
def df.of{l}(a:CY l)(d:l≠[])(f:bq (lx<|(l++[1]).map iQ)):df ((l++[1]).map iQ):=by have g:=bQ.2 d;have i:=a.l4;refine⟨VY l,?_,b8,b8,f,ago a⟩;have:=CP (l++[1])<|Z l;rw[fX,VX]at this;rw[cy,iq,s3,eK,this];rfl
def asV{a}{d}(i:aeN a d)(k:E a (Z a-1) 0=1)(o:bI a)(l:a≠[])(f:Pg d=ae):bq (lx a):=by
 match d,f with
 |[x],f=>
  have m:x.2=1:=eq_of_beq f
  have g:=i.prod
  let ⟨_,i2,_⟩:=i.ok x az
  rw[g8,g8,m,Rx.mul_one]at g
  have n:lx (dr a)=lx a:=by rw[uI l,k,show(1:e)⁻¹ =1 by decide+kernel,oC,Rx.one_mul]
  rw[n,show af (1:G)=1 from J,r6]at g
  rw[<-g];exact i2
def asW{l}(h:CY l):∃v:Bool,r q 32 [I .q ((l++[1]).map iQ)] (cB v)/\(v=ae->l≠[]/\bq (lx<|(l++[1]).map iQ)):=by
 have B:=h.l4;have d:Z ((l++[1]).map iQ)=Z l+1:=az;have a:E ((l++[1]).map iQ) (Z ((l++[1]).map iQ)-1) 0=1:=by have:=CP (l++[1])<|Z l;rw[fX,VX]at this;rw[d,eK,this];rfl
 have o:=VY l;have p:=asU h;have s:=agn h;generalize hm:(l++[1]).map iQ=m at*;have x:m≠[]:=λe=>by subst e;cases d
 have t:=afL (k:=1) D m O (by rw[a];decide) p x;by_cases A:l=[]
 .refine⟨ah,?_,λe=>wE⟩;subst A;refine aI Tryz.func32 ?_;refine N J<|j<|F<|rc J J t<|rg 6 J J (λh=>fE)<|λ_=>?_;refine rg 11 J J (λ_=>z J<|al J (λ_=>N J<|bL<|cK<|atR J)<|λh=>fE)<|λn=>?_;have n:¬(Z m:G)<2:=a6 n;rw[nb]at d;exact absurd n O
 have C:=bQ.2 A;have H:oc m:=aqS o x O (D:=1) D D λi=>by let ⟨K,L,n⟩:=s i;exact⟨K,bm L D,by rw[n];exact rZ _⟩
 let ⟨fs,f1,_,_,f4⟩:=asP H;have u:=asS f4;refine⟨Pg fs,?_,λM=>⟨A,asV f1 a o x M⟩⟩;have f:=IT m x O;rw[a]at f;have g:=aaA (k:=1) (1:Rat) 1 (by have:=p<|Z m-1;rwa[a]at this) D;rw[o9 J]at g;have P:=zb 1 D D;refine aI Tryz.func32 ?_;refine N J<|j<|F<|rc J J t<|rg 6 J J (λh=>fE)<|λ_=>?_;refine rg 11 J J (λn=>?_)<|λn=>?_
 .have n:(Z m:G)<2:=aU n;exact absurd n O
 refine z J<|al J (λy=>?_)<|λy=>aD ?_
 .have y:(Z m:G)>9:=aU y;exact absurd y O
 exact F<|rc J J f<|rc J J P<|rc J J g<|rg 20 J J (λ_=>jV J J J J J u<|z J<|cw J)<|λh=>fE
def aW.get_at{g:Gh}:∀{d:V C}{vs:V Value}{j:Y}{f:C},aW g d vs->d[j]? =ad f->∃v,c7 g f v
 |[],_,_,_,_,a=>by cases a
 |_::_,_,0,_,⟨v,_,_,i,_⟩,a=>by cases a;exact⟨v,i⟩
 |_::_,_,j+1,_,⟨_,_,_,_,h2⟩,a=>aW.get_at (j:=j) h2 a
def asX{P}{n}{Q}(t p:Y){T}{xs}{d}{k}{f}{mem}{l}{m}(hl:S t f=ad (.a d))(s:d[p]? =ad (.S T xs))(u:Z xs*T.n<=140737488355328->TR P n k ⟨f,mem,l,m⟩ Q):TR P n k ⟨f,mem,l,m⟩ Q:=by intro F x g W a o;have y:bu g (.a d) (a.tmps.getD t undef):=o.eY t (.a d) A';let ⟨_,_,h2⟩:=y;let ⟨v,i⟩:=aW.get_at h2 s;have i:c7 g (.S T xs) v:=i;let ⟨_,_,_,_,A,_⟩:=i;exact u A F x g W a o
def t8(x:G):G:=x.tmod 8
def asY x: -7<=t8 x/\t8 x<=7:=by unfold t8;rw[Int.tmod_eq_emod];split<;>omega
def JY:V (V G):=[[-2,0,1],[1,0,1],[-2,0,0,1],[1,1,1],[-1,-1,0,1],[1,0,0,0,1],[1,0,-10,0,1],[-3,1]]
def Ay{l d}(g:Z l<=4)(f:∀x∈l,-128<=x/\x<=127)(i:l≠[])(k:d=l++[1])(m:bq (lx<|d.map iQ)):df (wj d 4)/\∀x∈d,-128<=x/\x<=127:=by
 subst k;rw[agp l ⟨g,f⟩];refine⟨df.of ⟨g,f⟩ i m,λx a=>?_⟩;rcases bg.1 a with a|a
 .exact f x a
 .have:x=1:=by simpa using a
  subst this;decide
def asZ{i}(a:i<8):df (wj (JY.getD i []) 4)/\∀x∈JY.getD i [],-128<=x/\x<=127:=by
 have:i=0\/i=1\/i=2\/i=3\/i=4\/i=5\/i=6\/i=7:=O;rcases this with rfl|rfl|rfl|rfl|rfl|rfl|rfl|rfl
 .exact Ay (l:=[-2,0]) D D D J aqG
 .exact Ay (l:=[1,0]) D D D J aqH
 .exact Ay (l:=[-2,0,0]) D D D J aqI
 .exact Ay (l:=[1,1]) D D D J aqJ
 .exact Ay (l:=[-1,-1,0]) D D D J aqK
 .exact Ay (l:=[1,0,0,0]) D D D J aqL
 .exact Ay (l:=[1,0,-10,0]) D D D J aqM
 .exact Ay (l:=[-3]) D D D J aqN
def as0 k(d:V G)(t:0<=k/\k<=255)(U:∀x∈d,-128<=x/\x<=127):∃m,df m/\r q 11 [.a [.I .u8 k,.S I8 d]] (I .q m):=by
 have s:CY ((c 4 d).map t8):=⟨zN,λx l=>by obtain⟨y,_,rfl⟩:=iJ.1 l;have:=asY y;omega⟩;let ⟨v,qe,AJ⟩:=asW s;have o:=abn ((c 4 d).map t8++[1]) 4 D (λx l=>by
  rcases bg.1 l with l|l
  .exact s.sm x l
  .have:x=1:=by simpa using l
   subst this;decide)
 rw[agp _ s]at o;have u:af ((k.tdiv 2).tmod 8)<8:=by rw[uj t.1,me O];omega
 let ⟨A,H⟩:=asZ u;have n:=abn (JY.getD (af<|(k.tdiv 2).tmod 8) []) 4 D H;obtain⟨m,p⟩:∃m,m=if k.tmod 2=0/\v=ae then((c 4 d).map t8++[1]).map iQ else wj (JY.getD (af<|(k.tdiv 2).tmod 8) []) 4:=⟨_,J⟩
 refine⟨m,?_,?_⟩
 .rw[p];split
  .rename_i h;let ⟨K,h2⟩:=AJ h.2;exact df.of s K h2
  .exact A
 clear AJ A;generalize ((c 4 d).map t8++[1]).map iQ=M at*;refine aI Tryz.func11<|asX 0 1 J J λB=>?_;have B:Z d*1<=140737488355328:=B;refine N J<|F<|fT I8 [] J J (z J ?_);refine jH ⟨[(1,.c<|.P 0 0),(3,.c<|.X 1000000)],[(1000000,.vec 53 I8<|(c 4 d).map t8),(0,.box 24 0 [.I .u8 k,.S I8 d])],10,[]⟩ ?_<|λf=>N J ?_;rotate_left
 .refine au<|a8 (α:=Y) (λi=>⟨[(1,.c<|.P 0 0),(3,.c<|.X 1000000),(4,R i)],[(1000000,.vec 53 I8<|(c i d).map t8),(0,.box 24 0 [.I .u8 k,.S I8 d])],3,[]⟩) (λi=>i<=Z d/\i<=4) (λi=>Z d-i) 0 ⟨aY _,D⟩ aM ?_;rintro i ⟨W,L⟩;refine j (F<|rg 13 J J (λh=>?_)<|λh=>?_)
  .have h:i<Z d:=by have h:(i:G)<(Z d:G):=aU h;omega
   refine z J<|al J (λh2=>?_)<|λh2=>?_
   .have h2:i<4:=by have h2:(i:G)<4:=aU h2;omega
    have g:=Cb t8 0 d i h;rw[(JP:E d i 0=E d (af (i:G)) I8.dE)]at g;refine aD<|j<|au<|cu<|rl I8 [t8 (E d (af (i:G)) I8.dE)] J J (ra J J J J J J J J J ?_ ?_<|z J ?_) (hp:=aF)
    .show(_+1+(_+1)/4+192)*1<=_;simp only[cy,eL];omega
    .show(_+1)*1<=_;simp only[cy,eL];omega
    .refine bw (rt J (hp:=aF)<|aT (i+1) ⟨h,h2⟩ (O:Z d-(i+1)<Z d-i)<|Wk.trans (wk (st':=⟨[(1,.c<|.P 0 0),(3,.c<|.X 4008000),(4,R ((i+1:Y):G))],[(4008000,.vec 53 I8<|(c (i+1) d).map t8),(0,.box 24 0 [.I .u8 k,.S I8 d])],6,[]⟩) ⟨sR J,sR J,sE J ?_,aX⟩ ⟨bE J ?_,bR J,aX⟩)<|Wk.trans (fU 1000000 4008000 J J J) aM)
     .rfl
     .rw[g]
   .have h2:i=4:=by have h2:¬(i:G)<4:=a6 h2;omega
    subst h2;exact a7<|dB f aM
  .have h:i=Z d:=by have h:¬(i:G)<(Z d:G):=a6 h;omega
   refine z J<|al J (λh2=>mM)<|λ_=>?_;have e:c i d=c 4 d:=by rw[iY O,iY O]
   exact a7<|dB f<|wk (bO J) ⟨⟨_,J,mF.of_eq rW⟩,bR J,aX⟩
 refine F<|rl I8 [1] J J (ra J J J J J J J J J ?_ ?_<|z J ?_)
 .show(_+1+(_+1)/4+192)*1<=_;simp only[cy,eL];omega
 .show(_+1)*1<=_;simp only[cy,eL];omega
 refine cY 10002000 J J J ?_;refine F<|rc J J o<|z J ?_;refine Ml (λ_:Unit=>⟨[(1,.c<|.P 0 0)],[(0,.box 24 0 [.I .u8 k,.S I8 d])],20,[]⟩) (λ_=>¬(k.tmod 2=0/\v=ae)) (λ_ Q=>?_)<|λf=>F<|rg 37 J J (λh=>?_)<|λh=>?_;rotate_left
 .have h:k.tmod 2=0:=eq_of_beq h;refine jV J J J J J qe<|z J ?_;cases v with
  |true=>
   rw[b ⟨h,J⟩]at p
   exact al J (λ_=>N J<|bL<|cK<|eJ J<|by rw[p])<|λh=>fE
  |false=>exact al J (λh=>fE)<|λ_=>cP<|dB (f ()<|λh=>by cases h.2) aM
 .have h:k.tmod 2≠0:=ne_of_beq_false h;exact z J<|al J (λh=>fE)<|λ_=>cP<|dB (f ()<|λT=>h T.1) aM
 refine F<|rl I8 [-2,0,1] J J (rl I8 [1,0,1] J J (rl I8 [-2,0,0,1] J J (rl I8 [1,1,1] J J (rl I8 [-1,-1,0,1] J J (rl I8 [1,0,0,0,1] J J (rl I8 [1,0,-10,0,1] J J (rl I8 [-3,1] J J (rl (.sl I8) JY J J<|z J ?_))))))));rw[w Q]at p;rw[<-p]at n;have C:IntKind.u8.wrap (k.tdiv 2)=k.tdiv 2:=by rw[uj t.1];simp only[IntKind.wrap,IntKind.bits,IntKind.signed];simp;omega
 rw[<-C]at n;refine F<|rc J J n (z J<|cw J) (hp:=?_);have h0:0<=(k.tdiv 2).tmod 8:=by rw[uj t.1,me O];omega
 simp only[Pr.an,Pr.h,num,gT,true_and,and_true];rw[C];show(2≠0/\8≠0)/\0<=(k.tdiv 2).tmod 8/\(k.tdiv 2).tmod 8<8;omega
def agq{m:V e}(g:2<=Z m)(i:Z m<=5)(x:V (G×G×G))(a:∀y∈x,lj y):r q 12 [I RW x,I .q m] (I .q<|oG x<|Z m-2):=by
 refine aI Tryz.func12 ?_;have h:=aqQ x (Z m-2) O a;have d:((Z m:G)-2)=((Z m-2:Y):G):=O;have f:r q 28 [I RW x,R<|(Z m:G)-2] (I .q<|oG x<|Z m-2):=by rw[d];exact h
 exact N J<|F<|rc J J f (z J<|cw J) (hp:=aF)
end Go.El
namespace Go.El
open Go Go.Proofs Go.RowKit
noncomputable def Ph{a:Type}(n:Y)(f:Y->a):a:=Nat.rec (motive:=λ_=>a) (f 0) (λk _=>f<|Nat.add k 1) n
def VZ{a:Type} n(f:Y->a):Ph n f=f n:=by cases n<;>rfl
noncomputable def V0{a:Type}(x:G)(f:G->a):a:=Int.rec (motive:=λ_=>a) (λn=>Ph n<|λm=>f<|V1 m) (λn=>f<|Int.negSucc n) x
def as1{a:Type} x(f:G->a):V0 x f=f x:=by
 cases x with
 |ofNat n=>exact VZ n<|λm=>f<|V1 m
 |negSucc n=>rfl
noncomputable def JZ{a:Type}(l:V G):(V G->a)->a:=List.rec (motive:=λ_=>(V G->a)->a) (λf=>f []) (λx _ d f=>V0 x<|λy=>d<|λt=>f<|y::t) l
def Pj{a:Type}:∀(l:V G)(f:V G->a),JZ l f=f l
 |[],_=>rfl
 |x::l,f=>by show V0 x (λy=>JZ l<|λt=>f<|y::t)=_;rw[as1,Pj l]
def V2:V C->ax (V G)
 |[]=>ad []
 | .I .u64 n::a=>(match V2 a with
  |some l=>ad<|n::l
  |none=>none)
 |_=>none
noncomputable def Pk(a:Ms):C->ax (V G)
 | .S (.int .u64) xs=>ad xs
 | .V (.slice none 0 0)=>ad []
 | .L id off len _=>(match bD id a with
  |some (.box _ _ cs)=>V2<|(aA off cs).take len
  |some (.fz _ cs)=>V2<|(aA off cs).take len
  |_=>none)
 |_=>none
def CZ(p x:G):Bool:=decide (0<=x)&&decide (x<p)
def V3(p:G)(l:V G):Bool:=l.all<|CZ p
def agr{p}(a:0<p){l}(d:V3 p l=ae):rp p l:=by
 intro i;rw[aK];cases hl:l[i]? with
 |none=>exact⟨hO _,a⟩
 |some x=>
  have:=jS.1 d x<|LH hl
  simp only[CZ,cz,decide_eq_true_eq]at this
  exact this
noncomputable def ags:V AV->ax (V AV×AV)
 |[.c (.I .u64 a),.c<|.I .u64 n,.c<|.I .u64 p]=>(match CZ 18446744073709551616 a&&CZ 18446744073709551616 n&&decide (0<p)&&decide (p<=4294967296)with
  |true=>Ph (ux (af a) (af n)<|af p)<|λd=>ad ([cU a,cU n,cU p],cU<|V1 d)
  |false=>none)
 |_=>none
noncomputable def agt:V AV->ax (V AV×AV)
 |[.c (.I .u64 a),.c<|.I .u64 p]=>(match CZ p a&&decide (a≠0)&&decide (2<=p)&&decide (p<=2147483648)with
  |true=>Ph (jg (af a)<|af p)<|λd=>ad ([cU a,cU p],.t [(ah,[.I .u64 (V1 d)]),(ah,[.I .i64 0])])
  |false=>none)
 |_=>none
def Pl(a d:V G)(p:G):Bool:=dP (Z a) 1000&&dP (Z d) 1000&&decide (2<=p)&&decide (p<=2147483648)&&V3 p a&&V3 p d
noncomputable def agu(f:Ms):V AV->ax (V AV×AV)
 |[.a [x,.I .u64 p],.a [y,.I .u64 g]]=>(match Pk f x,Pk f y with
  |some a,ad d=>(match decide (p=g)&&Pl a d p with
   |true=>JZ (cT a d p)<|λl=>ad ([aP a p,aP d p],aP l p)
   |false=>none)
  |_,_=>none)
 |_=>none
noncomputable def agv(f:Ms):V AV->ax (V AV×AV)
 |[.a [x,.I .u64 p],.a [y,.I .u64 g]]=>(match Pk f x,Pk f y with
  |some a,ad d=>(match decide (p=g)&&Pl a d p&& !a.isEmpty&& !d.isEmpty&&decide (List.getD d (Z d-1) 0≠0)with
   |true=>JZ (aS a d p).1<|λl=>JZ (aS a d p).2<|λi=>ad ([aP a p,aP d p],.t [(ae,[.S aw l,.I .u64 p]),(ae,[.S aw i,.I .u64 p])])
   |false=>none)
  |_,_=>none)
 |_=>none
noncomputable def V4(f:FuncId)(vs:V AV)(a:Ms):ax (V AV×AV):=
 match g6 f 301 with
 |true=>ags vs
 |false=>(match g6 f 291 with
  |true=>agt vs
  |false=>(match g6 f 292 with
   |true=>agu a vs
   |false=>(match g6 f 264 with
    |true=>agv a vs
    |false=>none)))
def agw{a d}{p}(f:Pl a d p=ae):Z a<=1000/\Z d<=1000/\2<=p/\p<=2147483648/\rp p a/\rp p d:=by simp only[Pl,cz,decide_eq_true_eq]at f;let ⟨⟨⟨⟨⟨g,h2⟩,i⟩,k⟩,l⟩,m⟩:=f;exact⟨c8 g,c8 h2,i,k,agr O l,agr O m⟩
def as2:∀f vs t g k,V4 f vs t=ad (g,k)->r q f g k:=by
 intro f vs t g k h;unfold V4 at h;split at h
 .rename_i i;rw[lL i];unfold ags at h;split at h
  .rename_i a n p;split at h
   .rename_i d;simp only[cz,CZ,decide_eq_true_eq]at d;rw[VZ]at h;cases h;have:=ZM (af a) (af n) (af p) O O O O;rwa[vN (by omega:0<=a),vN (by omega:0<=n),vN (by omega:0<=p)]at this
   .cases h
  .cases h
 .split at h
  .rename_i i;rw[lL i];unfold agt at h;split at h
   .rename_i a p;split at h
    .rename_i d;simp only[cz,CZ,decide_eq_true_eq]at d;rw[VZ]at h;cases h;exact ZS a p O O O O
    .cases h
   .cases h
  .split at h
   .rename_i i;rw[lL i];unfold agu at h;split at h
    .rename_i x p y A;split at h
     .rename_i a b _ _;split at h
      .rename_i d;simp only[cz]at d;let ⟨l,h2,u,m,o,s⟩:=agw d.2;rw[Pj]at h;cases h;exact alA a b p l h2 O m o s
      .cases h
     .cases h
    .cases h
   .split at h
    .rename_i i;rw[lL i];unfold agv at h;split at h
     .rename_i x p y A;split at h
      .rename_i a b _ _;split at h
       .rename_i d;simp only[cz,decide_eq_true_eq]at d;let ⟨⟨⟨⟨_,d⟩,B⟩,v⟩,hl⟩:=d;let ⟨l,h2,u,m,o,s⟩:=agw d;rw[Pj,Pj]at h;cases h;cases a with
        |nil=>simp at B
        |cons x C=>exact alE x C b p J l h2 u m o s (by intro e;rw[e]at v;simp at v) hl
       .cases h
      .cases h
     .cases h
    .cases h
abbrev Cl:=FuncId×V AV×AV
noncomputable def F5(l:V Cl)(f:FuncId)(vs:V AV)(a:Ms):ax (V AV×AV):=List.rec (motive:=λ_=>ax<|V AV×AV) (V4 f vs a)
 (λe _ d=>match g6 f e.1 with
  |true=>(match sd (λg=>bD g a) vs e.2.1 with
   |true=>ad (e.2.1,e.2.2)
   |false=>d)
  |false=>d) l
def Pm:V Cl->Prop
 |[]=>True
 |a::d=>r q a.1 a.2.1 a.2.2/\Pm d
def Pn:∀{l:V Cl},Pm l->∀f vs d a g,F5 l f vs d=ad (a,g)->r q f a g
 |[],_,f,vs,d,a,g,m=>as2 f vs d a g m
 |k::l,hl,f,vs,d,a,g,m=>by
  have i:(match g6 f k.1 with
   |true=>(match sd (λo=>bD o d) vs k.2.1 with
    |true=>ad (k.2.1,k.2.2)
    |false=>F5 l f vs d)
   |false=>F5 l f vs d)=ad (a,g):=m
  split at i
  .rename_i n;have n:=lL n;split at i
   .simp only[ar,bM]at i;obtain⟨rfl,rfl⟩:=i;rw[n];exact hl.1
   .exact Pn hl.2 f vs d a g i
  .exact Pn hl.2 f vs d a g i
def hJ{l}(d:Pm l){f}{vs}{a}(g:adD a (tA q dY (F5 l) (iS q dY (F5 l) 100000) f vs [] 0)=ae)(i:cR vs=[])(k:a.ak=[]):r q f vs a:=
 ao4 MX cv (Pn d) 100000 g i k
def Po{l}(d:Pm l){f}{vs}{a}(g:U9 q dY (F5 l) 100000 200 200 f vs a=ae)(i:cR vs=[])(k:a.ak=[]):r q f vs a:=
 ap1 MX cv (Pn d) 100000 200 200 g i k
def qI(n:G):e:=Rat.ofInt n
abbrev uP(l:V e):AV:= .c<|.S .q l
abbrev zP(l:V G):AV:= .c<|.S .z l
abbrev oJ(l:V (V G)):AV:= .c<|.S (.sl .z) l
abbrev pL(l:V (V G×G)):AV:= .c<|.S (.pr (.sl aw) aw) l
abbrev PQ:G:=1073741827
open Rx
def oK(a d:V e):Y->V e
 |0=>List.replicate (Z a+Z d-1) 0
 |i+1=>jz (oK a d i) (E a i 0) d i
def V5(a d:V e):∀i,Z (oK a d i)=Z a+Z d-1
 |0=>fo
 |i+1=>by rw[oK,jz,nw,V5 a d i]
def as3 a i:lx (c (i+1) a)=lx (c i a)+K (E a i 0)*X i:=ext λj=>by
 rw[eV,fh,E3,fX,fX,E8,E8];by_cases h:j=i
 .subst h;rw[b O,w O,b J];grind
 .rw[w h];by_cases h2:j<i
  .rw[b O,b h2];grind
  .rw[w O,w h2];grind
def V6{a d:V e}:∀i,i<=Z a->lx (oK a d i)=lx (c i a)*lx d
 |0,_=>by rw[oK,H4,kE,Rx.zero_mul];exact ext λi=>Iv _ i
 |i+1,f=>by rw[oK,IN _ (by rw[V5];omega),V6 i O,as3,Rx.add_mul,Rx.mul_assoc]
def as4 a d:fC (oK a d<|Z a)=ml a d:=oD (mT _) (zI a d) (by rw[tm,V6 _<|aO _,fR,uJ])
def V7{n m t u s}{a d}(o:Pz n t a)(p:Pz m u d)(M:n<=16)(P:m<=400)(v:t+u+4<32*s)(Q:s<=100000000000):r q 67 [I .q a,I .q d] (I .q<|ml a d):=by
 refine aI Tryz.func67 ?_;have T:=o.len;have U:=p.len;refine N J<|j<|F<|rg 11 J J (λh=>?_)<|λh=>?_
 .have h:a=[]:=by have h:(a.length:G)=0:=eq_of_beq h;exact eT O
  subst h;rw[abi];exact z J<|al J (λ_=>N J<|bL<|cK<|ig cv J<|bl.nil .q)<|λh=>fE
 refine z J<|al J (λl=>?_)<|λl=>aD ?_
 .have h:d=[]:=by have h:(d.length:G)=0:=eq_of_beq l;exact eT O
  subst h;rw[abj];exact N J<|bL<|cK<|ig cv J<|bl.nil .q
 have W:0<a.length:=by have h:(((a.length:Y):G)==0)=ah:=h;rw[beq_eq_false_iff_ne]at h;omega
 have e:0<d.length:=by have h:(((d.length:Y):G)==0)=ah:=l;rw[beq_eq_false_iff_ne]at h;omega
 clear h l;have y:ox q 118 [R ((a.length:G)+(d.length:G)-1)] 44 .q (List.replicate (a.length+d.length-1) 0):=by rw[(O:(a.length:G)+(d.length:G)-1=((a.length+d.length-1:Y):G))];exact M8 _ O
 refine F<|Bq J J y (z J<|j<|N J ?_) (hp:=aF);refine au<|a8 (α:=Y) (λi=>⟨[(1,I .q d),(5,.c<|.X 2006000),(23,I .q a),(24,R a.length),(25,R i)],[(2006000,.vec 44 .q<|oK a d i)],4,[]⟩) (λi=>i<=a.length) (λi=>a.length-i) 0 (aY _) (wk (bO J) ⟨bE J J,aX⟩) ?_;intro i A;have B:=V5 a d i;have C:∀f,QS s ((oK a d i).getD f 0):=λf=>by
  have H:Ht (2^(t+u+4)) (lx<|oK a d i):=by rw[V6 i A,<-IU];let ⟨K,d1,d2,d3⟩:=o.ht;refine Ht.mul (n:=2^4) ⟨K,d1,d2,d3.take i⟩ p.ht ?_ D;have:=IA<|a.take i;rw[eL]at this;omega
  exact H.qs (mU v) f
 refine N J<|j<|al J (λh=>?_)<|λh=>?_
 .have h:i<a.length:=by have h:(i:G)<(a.length:G):=aU h;omega
  have g:=M9 (s:=s) O (oK a d i) (a.getD i 0) d i O O C (o.qs O i)<|λf=>p.qs O f;have L:((i:G)).toNat=i:=bY i;rw[show jz (oK a d i) (a.getD i 0) d i=oK a d (i+1)from J]at g;have k:ui q 119 [.c (.X 0),aQ<|a.getD ((i:G)).toNat 0,I .q d,R i] 44 .q (oK a d i) (.t []) (oK a d<|i+1):=by rw[L];exact g
  refine aD<|j<|au<|N J (cu<|y6 2006000 J k J J<|z J<|bw<|rt J (hp:=aF)<|aT (i+1) h (O:a.length-(i+1)<a.length-i)<|wk ⟨sR J,sR J,sR J,sR J,sE J ?_,aX⟩ ⟨bR J,aX⟩) (hp:=aF);exact je (O:(i:G)+1=((i+1:Y):G))
 .have h:i=a.length:=by have h:¬(i:G)<(a.length:G):=a6 h;omega
  subst h;have x:=It (oK a d a.length) O;rw[as4]at x;exact a7<|aL<|cY 2006000 J J J<|bt J J x J<|cw J
def as5:r q 74 [I .q [],I .q []] (I .q []):=hJ (l:=[]) h dZ J J
def as6 a d:fC (xI a (-1) d)=fQ a d:=oD (mT _) (mT _) (by rw[tm,amM,Ca,S0,oC,Rx.neg_mul,Rx.one_mul,sub_def])
def as7{s}(f:1<=s)(g:s<=200000000000) a d(k:Z a<=1000)(l:Z d<=1000)(m:∀i,QS s (E a i 0))(n:∀i,QS s (E d i 0)):r q 74 [I .q a,I .q d] (I .q<|fQ a d):=by
 by_cases h:0<max (Z a) (Z d)
 .rw[<-as6];exact amr f g a d k l h m n
 .have o:a=[]:=eT O;have p:d=[]:=eT O;subst o p;exact as5
def Pz.V8{n m t u s}{a d}(f:Pz n t a)(g:Pz m u d)(l:n<=500)(o:m<=500)(i:t<32*s)(k:u<32*s)(p:s<=100000000000):r q 74 [I .q a,I .q d] (I .q<|fQ a d):=
 as7 O O a d (bm f.len O) (bm g.len O) (f.qs i) (g.qs k)
def agx d a:fC (rY d a)=eF d a:=oD (mT _) (mT _) (by rw[tm,aa0,B8])
def Pz.agy{n t s}{a}{c}(d:Pz n t a)(f:QS s c)(i:n<=500)(g:t<32*s)(k:s<=100000000000):r q 75 [aQ c,I .q a] (I .q<|eF c a):=by rw[<-agx];exact SS O O c a (bm d.len O) f<|d.qs g
def agz{s}(i:1<=s)(k:s<=100000000000){a f}(l:f≠[])(g:xK s a f):r q 65 [I .q a,I .q f] (.t [(ah,[.S .q (cM a f)]),(ah,[.S .q (cx a f)]),(ah,[.I .i64 0])]):=by
 have m:=bQ.2 l;have n:=g.la;have o:=g.lb;by_cases d:Z a<Z f
 .rw[cx,cM,b d,b d];exact amw a f d O
 .rw[cx,cM,w d,w d];exact amu i k a f (Z f-1) (Z a+1-Z f) O O O O g.bn g.qb g.qS
def Pz.Pp{n m t u d s}{a f}(i:Pz n t a)(k:Pz m u f)(g:f≠[])(l:Z a+1-Z f<=d)(o:n<=500)(p:m<=500)(v:t+u+(u+1)*d<32*s)(x:s<=100000000000):r q 65 [I .q a,I .q f] (.t [(ah,[.S .q (cM a f)]),(ah,[.S .q (cx a f)]),(ah,[.I .i64 0])]):=
 agz O x g (i.zJ k g l o p v)
def Pz.as8{n m t u d s}{a f}(g:Pz n t a)(i:Pz m u f)(k:f≠[])(l:Z a+1-Z f<=d)(o:n<=500)(p:m<=500)(v:t+u+(u+1)*d<32*s)(x:s<=100000000000):r q 17 [I .q a,I .q f] (I .q<|cx a f):=by refine aI Tryz.func17 ?_;exact N J<|F<|rc J J (g.Pp i k l o p v x)<|z J<|N J<|cw J
def fm(a d m:V e):V e:=cx (ml a d) m
def Pz.as9{n m k t u v d s}{a g f}(i:Pz n t a)(l:Pz m u g)(x:Pz k v f)(y:f≠[])(o:n<=16)(A:m<=400)(L:k<=400)(M:Z a+Z g-1+1-Z f<=d)(B:t+u+4+v+(v+1)*d<32*s)(p:s<=100000000000):r q 19 [I .q a,I .q g,I .q f] (I .q<|fm a g f):=by refine aI Tryz.func19 ?_;have C:=i.mul l o;have:=IV i.can l.can;have H:=C.as8 x y (d:=d) O O O B p;exact N J<|F<|rc J J (V7 i l o A O p)<|rc J J H<|z J<|cw J
def Pz.fm{n m k t u v d}{a g f}(i:Pz n t a)(l:Pz m u g)(o:Pz k v f)(p:f≠[])(s:n<=16)(x:Z a+Z g-1+1-Z f<=d):Pz k (t+u+4+(v+1)*d) (El.fm a g f):=by have:=IV i.can l.can;exact(i.mul l s).rem o p O
def Pq{a b d}(f:bI d)(g:d≠[]):lx d∣lx (fm a b d)-lx a*lx b:=by rw[<-uJ];exact NB f g
end Go.El
namespace Go.El
open Go Go.Proofs Go.RowKit
def agA{g:Gh}{d:Y->Y}:∀{f:C}{v:Value},c7 ⟨g.H,λi=>g.γ<|d i⟩ f v->c7 g (jX d f) v
 | .any,_,a=>a
 | .B _,_,a=>a
 | .I _ _,_,a=>a
 | .V _,_,a=>a
 | .S _ _,_,a=>a
 | .P _ _,_,a=>a
 | .X _,_,a=>a
 | .Y _ _ _ _,_,a=>a
 | .E _ _ _,_,a=>a
 | .M _,_,a=>a
 | .L _ _ _ (ad _),_,a=>a
 | .L _ _ _ none,_,a=>a
 | .W _ _ _,_,a=>a
def F6{g:Gh}{d:Y->Y}:∀{f:V C}{vs:V Value},aW ⟨g.H,λi=>g.γ<|d i⟩ f vs->aW g (f.map<|jX d) vs
 |[],_,a=>a
 |_::_,_,a=>by let ⟨v,k,l,m,h2⟩:=a;exact⟨v,k,l,agA m,F6 h2⟩
def V9{g:Gh}{k:Y->Y}:∀{l:V (Bool×V C)}{vs:V Value},fJ ⟨g.H,λm=>g.γ<|k m⟩ l vs->fJ g (l.map λs=>(s.1,s.2.map<|jX k)) vs
 |[],_,d=>d
 | (n,f)::_,_,d=>by
  let ⟨v,o,i,a,h2⟩:=d;refine⟨v,o,i,?_,V9 h2⟩;match n,f,a with
  |true,f,a=>let ⟨vs,i,d⟩:=a;exact⟨vs,i,F6 d⟩
  |false,[f],a=>exact agA a
  |false,[],a=>exact a.elim
  |false,_::_::_,a=>exact a.elim
def agB{g:Gh}{a:Y->Y}{k l:Bool}:∀{n:Y}{xs:V (V C×V C)}{m:V MapEntry},iy ⟨g.H,λo=>g.γ<|a o⟩ k l n xs m->iy g k l n (xs.map λx=>(x.1.map<|jX a,x.2.map<|jX a)) m
 |_,[],_,d=>d
 |_,_::_,_,d=>by let ⟨p,s,t,h2,⟨u,v,f⟩,⟨vs,y,i⟩,A⟩:=d;exact⟨p,s,t,h2,⟨u,v,F6 f⟩,⟨vs,y,F6 i⟩,agB A⟩
def as'{x:Y->Prop}{g}{W}{s:Y->Y}{p}{t}(l:fV x ⟨g.H,λp=>g.γ<|s p⟩ W p t):fV x g W (s p) (uw s t):=by
 cases t with
 |box E B cs=>
  let ⟨k,vs,rest,a,d,i,o,u,A⟩:=l
  exact⟨k,vs,rest,a,d,F6 i,o,u,A⟩
 |vec E T C=>
  rcases l with⟨a,d⟩|⟨k,v,vs,a,d⟩
  .exact .inl ⟨a,d⟩
  .exact .inr ⟨k,v,vs,a,d⟩
 |hY f first y=>
  let ⟨us,ws,a,d,i⟩:=l
  exact⟨us,ws,a,V9 d,V9 i⟩
 |fz E cs=>
  let ⟨k,vs,rest,a,d,i,o,u⟩:=l
  exact⟨k,vs,rest,a,d,F6 i,o,u⟩
 |mp K L xs=>
  let ⟨k,es,a,d,i,o⟩:=l
  exact⟨k,es,a,by simpa using d,agB i,o⟩
 |it m n seen=>exact l
def ata(a:Y->Y):∀d:C,(jX a d).ak=d.ak.map a
 | .any=>rfl
 | .B _=>rfl
 | .I _ _=>rfl
 | .V _=>rfl
 | .S _ _=>rfl
 | .P _ _=>rfl
 | .X _=>rfl
 | .Y _ _ _ _=>rfl
 | .E _ _ _=>rfl
 | .M _=>rfl
 | .L _ _ _ _=>rfl
 | .W _ _ _=>rfl
def J0(d:Y->Y):∀a:V C,bV (a.map<|jX d)=(bV a).map d
 |[]=>rfl
 |f::a=>by simp[bV,ata,J0 d a]
def agC(d:Y->Y):∀a:V (Bool×V C),eW (a.map λs=>(s.1,s.2.map<|jX d))=(eW a).map d
 |[]=>rfl
 |f::a=>by simp[eW,J0,agC d a]
def agD(a:Y->Y):∀xs:V (V C×V C),lB (xs.map λx=>(x.1.map<|jX a,x.2.map<|jX a))=(lB xs).map a
 |[]=>rfl
 |d::cs=>by simp[lB,J0,agD a cs]
def atb(d:Y->Y) g:(uw d g).ak=g.ak.map d:=by
 cases g with
 |box E z cs=>exact J0 d cs
 |vec E T xs=>rfl
 |hY f a g=>simp[uw,aG.ak,agC]
 |fz E cs=>exact J0 d cs
 |mp i k xs=>exact agD d xs
 |it m n seen=>rfl
def yk(a:Y->Y):V (Y×aG)->V (Y×aG)
 |[]=>[]
 | (id,d)::f=>(a id,uw a d)::yk a f
def agE{g:Y->Y}{k:Y}{l:aG}:∀{fm:V (Y×aG)},S k (yk g fm)=ad l->∃d f,d∈fm.map (·.1)/\g d=k/\(d,f)∈fm/\l=uw g f
 |[],a=>by cases a
 | (i,x)::fm,a=>by
  simp only[yk,S]at a;split at a
  .rename_i n;cases a;exact⟨i,x,az,n,az,J⟩
  .obtain⟨d,f,m,o,p,s⟩:=agE a;exact⟨d,f,by simp at m;simp[m],o,by simp[p],s⟩
def agF{fm}(a:(fm.map (·.1)).Nodup){f}{g:aG}(d:(f,g)∈fm):S f fm=ad g:=by
 induction fm with
 |nil=>cases d
 |cons p r i=>
  obtain⟨j,x⟩:=p
  simp only[il,AK]at a
  simp only[S]
  rcases b9.1 d with e|d
  .cases e;simp
  .have:j≠f:=λe=>a.1 (by subst e;exact iJ.2 ⟨_,d,J⟩)
   rw[w this];exact i a.2 d
def F7{g:Y->Y}{k:Y}{l:aG}:∀{fm:V (Y×aG)},(∀i∈fm.map (·.1),∀n∈fm.map (·.1),g i=g n->i=n)->S k fm=ad l->S (g k) (yk g fm)=ad (uw g l)
 |[],_,d=>by cases d
 | (i,x)::fm,m,d=>by
  simp only[yk,S]at d⊢;split at d
  .rename_i f;cases d;subst f;simp
  .rename_i f;have o:k∈fm.map (·.1):=by
    clear m f;induction fm with
    |nil=>cases d
    |cons p r s=>
     simp only[S]at d
     split at d
     .rename_i f;subst f;simp
     .simp[s d]
   rw[w (λt=>f<|m i az k (by simp at o;simp[o]) t)];exact F7 (λa u l v=>m a (ko _ u) l<|ko _ v) d
def p'(a:V Y):Y×aG:=(0,.hY 0 [] (a.map λi=>(ah,[.X i])))
def agG(g:Gh):∀a:V Y,fJ g (a.map λi=>(ah,[.X i])) (a.map g.γ)
 |[]=>rfl
 |i::a=>⟨_,_,J,J,agG g a⟩
def agH{g:Gh}:∀{a:V Y}{k:V Value},fJ g (a.map λi=>(ah,[.X i])) k->k=a.map g.γ
 |[],_,d=>d
 |i::a,_,d=>by obtain⟨v,m,rfl,f,l⟩:=d;have f:v=g.γ i:=f;simp[f,agH l]
def agI:∀a:V Y,eW (a.map λi=>(ah,[.X i]))=a
 |[]=>rfl
 |i::a=>by simp[eW,bV,C.ak,agI a]
section
variable{P:Program}{tt:TT}
def atc(d:cq P tt=ae){n}{f}{k}{l}{m}(o:lJ tt f l=ad m)(i:k.results=l.toArray:=by rfl):fA n .normal f (U' P k m f.mem):=
 λF p g W a h=>aej d o i F p g W a h
def agJ(T:Y->Y){n}{f}{fn}{dQ}{vs vs0}{k}{bf}{fm0 fm0' fm Hy}(hf:P.funcs[f]? =ad fn)(hb:fn.body=ad dQ)(hN:fn.ntmps=n)
  (L:TR P n dQ ⟨dG 0 vs0,p' (fm0.map (·.1))::fm0,1,[]⟩ (U' P fn bf<|p' (fm0.map (·.1))::fm0'))
  (vQ:vs=vs0.map (Mt T)) (Q8:fm=yk T fm0) (atd:Hy=yk T fm0')
  (hd:∀d∈fm0.map (·.1),(1<=d/\d<1000000)/\T d<k) (Q:∀i∈fm0.map (·.1),∀M∈fm0.map (·.1),T i=T M->i=M)
  (y4:∀d∈cR vs0,d∈fm0.map (·.1)) (nk:∀d A,(d,A)∈fm0->∀M∈A.ak,M∈fm0.map (·.1)) (ze:fm0'.map (·.1)=fm0.map (·.1)) (agK:∀d A,(d,A)∈fm0'->∀M∈A.ak,M∈fm0.map (·.1))
  (y5:bf.ak=[]) (lD:(fm0.map (·.1)).Nodup:=by decide) (hle:dP (Z vs0) n=ae:=by rfl) (tY:(fn.name != "runtime.NumGoroutine")=ae:=by rfl):CX P f vs fm k bf Hy k:=by
 subst vQ Q8 atd
 refine⟨Bb,aO _,?_⟩
 intro F g W U hn mc z
 have ate:fw g (vs0.map<|Mt T) U:=ac2 _ U 0 U mc (λM hj=>az) (λt v ht=>z.eY t v<|by simp[St.kn,ht])
 have hle:=c8 hle
 have mc:Z U=Z vs0:=by simpa using mc
 let K:Y->Value:=λd=>g.γ<|T d
 let g0:Gh:=⟨g.H,λd=>if d=0 then .func (.func 0) #[] ((fm0.map (·.1)).map K).toArray else K d⟩
 have Ps:g0.γ 0= .func (.func 0) #[] ((fm0.map (·.1)).map K).toArray:=by simp[g0]
 have F8:∀d,d≠0->g0.γ d=K d:=λd L=>by simp[g0,L]
 have Pt:∀d∈fm0.map (·.1),d≠0:=λd L=>by have:=(hd d L).1.1;omega
 have Ao:gC (λd=>d≠0) ⟨g.H,K⟩ g0:=⟨cL.refl _,λd L=>F8 d L⟩
 have BV:fw g0 vs0 U:=by
  have key:∀(xs:V AV)(U:V Value),fw g (xs.map<|Mt T) U->(∀d∈cR xs,d≠0)->fw g0 xs U:=by
   intro xs;induction xs with
   |nil=>intro U L _;exact L
   |cons x xs ih=>
    rintro U ⟨v,bf,rfl,R,h2⟩ hm
    exact⟨v,bf,J,bu.mono Ao (λd B=>hm d<|eH _ B)<|alv R,ih bf h2<|λd B=>hm d<|gD _ B⟩
  exact key vs0 U ate<|λd B=>Pt d<|y4 d B
 have Pu:∀{fm:V (Y×aG)}{d:Y}{A:aG},S d fm=ad A->d∈fm.map (·.1):=by
  intro fm;induction fm with
  |nil=>intro d A L;cases L
  |cons p l ih=>
   intro d A L
   simp only[S]at L
   split at L
   .rename_i e;subst e;simp
   .have:=ih L;simp at this;simp[this]
 have wV:∀{fm:V (Y×aG)}{d:Y}{A:aG},S d fm=ad A->(d,A)∈fm:=by
  intro fm;induction fm with
  |nil=>intro d A L;cases L
  |cons p l ih=>
   intro d A L
   simp only[S]at L
   split at L
   .rename_i e;cases L;subst e;simp
   .exact ko _<|ih L
 have D0:∀d A,S d fm0=ad A->fV F.N g W (T d) (uw T A):=λd A L=>z.cX (T d) (uw T A) (by simp[St.kn,F7 Q L])
 let F0:fj:={w0:=W,H0:=g.H,n:=n,own:=λx=>∃d A,S d fm0=ad A/\El.cE (K d)=ad x,k0:=1,γ0:=g0.γ}
 have Jy:∀x,F0.own x->F.N x/\x<W.heap.size:=λx ⟨d,A,R,h2⟩=>(D0 d A R).block h2
 have pn:∀{X:V (Y×aG)}{d:Y}{A:aG}{sl:V (Y×AV)}{nx:Y},St.kn ⟨sl,p' (fm0.map (·.1))::X,nx,[]⟩ (.m d)=ad (.b A)->(d=0/\A=(p'<|fm0.map (·.1)).2)\/(d≠0/\S d X=ad A):=by
  intro X d A sl nx e;have e1:S d (p' (fm0.map (·.1))::X)=ad A:=by
   have e0:(S d<|p' (fm0.map (·.1))::X).map Info.b=ad (.b A):=e;cases L:S d (p' (fm0.map (·.1))::X)with
   |none=>rw[L]at e0;cases e0
   |some y=>rw[L]at e0;cases e0;rfl
  change (if 0=d then ad (p'<|fm0.map (·.1)).2 else S d X)=ad A at e1;by_cases dQ:0=d
  .rw[b dQ]at e1;cases e1;exact .inl ⟨dQ.symm,J⟩
  .rw[w dQ]at e1;exact .inr ⟨λL=>dQ L.symm,e1⟩
 have sf:∀t v,S t (dG 0 vs0)=ad v->bu g0 v ((U.toArray++Array.replicate (fn.ntmps-U.toArray.size) undef).getD t undef)/\∀d∈v.ak,d∈cR vs0:=by
  intro t v ht;obtain⟨_,u,hu,hr,h6⟩:=nP vs0 U 0 BV t v ht;have wR:U[t]? =ad u:=w8;have hZ:t<Z U:=(sQ.1 wR).1;have:(U.toArray++Array.replicate (fn.ntmps-U.toArray.size) undef).getD t undef=u:=by rw[nM,yK Bc];simp[wR]
  rw[this];exact⟨hr,h6⟩
 refine calls_of_wp hf hb ?_
 refine wp_mono (L F0 ⟨J,aO _,J,J⟩ g0 W _ ⟨?_,J,?_,?_,?_,?_,?_,z.sub,⟨J,J,J,aO _,λ_ _ _=>rfl⟩,cL.refl _,λ_ _ _ _=>rfl,λd B=>⟨?_,J⟩⟩)<|λe a W' hq=>?_
 .simp[hN,F0];omega
 .intro t v ht;simp only[St.kn,cG]at ht;obtain⟨x,hx,G⟩:=ht;cases G;exact(sf t v hx).1
 .intro d A e;rcases pn e with⟨rfl,rfl⟩|⟨hn,hl⟩
  .refine⟨[],_,Ps,J,?_⟩;have:=agG g0<|fm0.map (·.1);have e1:(fm0.map (·.1)).map g0.γ=(fm0.map (·.1)).map K:=SE λi hi=>F8 i (Pt i hi)
   rwa[e1]at this
  .refine fV.yW (alw<|D0 d A hl) (λkk E=> .inr ⟨d,A,hl,E⟩) (F8 d hn) J ⟨cL.refl _,λM hj=>F8 M<|Pt M<|nk d A (wV hl) M hj⟩
 .intro d rH A b' kk e e' E yH;rcases pn e with⟨rfl,rfl⟩|⟨hn,hl⟩
  .rw[Ps]at E;cases E
  .rcases pn e' with⟨rfl,rfl⟩|⟨JF,QC⟩
   .rw[Ps]at yH;cases yH
   .rw[F8 _ hn]at E;rw[F8 _ JF]at yH;exact Q d (Pu hl) rH (Pu QC)<|z.inj _ _ _ _ kk (by simp[St.kn,F7 Q hl];rfl) (by simp[St.kn,F7 Q QC];rfl) E yH
 .intro key x e d B;show d<1000000*1;have E:∀d∈fm0.map (·.1),d<1000000*1:=λd L=>by have:=(hd d L).1.2;omega
  cases key with
  |m M=>
   cases x with
   |v v=>simp only[St.kn,cG]at e;obtain⟨_,_,G⟩:=e;cases G
   |b A=>
    rcases pn e with⟨rfl,rfl⟩|⟨hn,hl⟩
    .have B:d∈eW []++eW ((fm0.map (·.1)).map λi=>(ah,[C.X i])):=B;rw[agI]at B;exact E d (by simpa[eW]using B)
    .exact E d<|nk M A (wV hl) d B
  |s t=>
   simp only[St.kn,cG]at e
   obtain⟨y,hy,G⟩:=e
   subst G
   exact E d<|y4 d<|(sf t y hy).2 d B
 .intro d x e;show d<1000000*1;cases x with
  |v v=>simp only[St.kn,cG]at e;obtain⟨_,_,G⟩:=e;cases G
  |b A=>
   rcases pn e with⟨rfl,rfl⟩|⟨hn,hl⟩
   .decide
   .have:=(hd d<|Pu hl).1.2;omega
 .have B:d<1:=B;show d<1000000*1;omega
 refine ap4 ?_ hq
 rintro e W' ⟨v,g1,rfl,hv,R⟩
 have hγ:∀d∈fm0.map (·.1),g1.γ d=K d:=by
  have e0:g1.γ 0=g0.γ 0:=(R.gK 0 (D:(0:Y)<1)).2;obtain⟨us0,ws,e1,e2,e3⟩:=R.cX 0 (p'<|fm0.map (·.1)).2 (by simp[St.kn,p',S]);rw[e0,Ps]at e1;have e4:=agH e3;have e5:((fm0.map (·.1)).map K)=(fm0.map (·.1)).map g1.γ:=by rw[<-e4];injection e1 with _ _ e6;have:=be Array.toList e6;simpa using this
  intro d B;exact(List.map_inj_left.1 e5 d B).symm
 let g2:Gh:=⟨g1.H,g.γ⟩
 have Ei:∀d A,(d,A)∈fm0'->S d fm0'=ad A:=λd A L=>agF (by rw[ze];exact lD) L
 have I:∀d A,(d,A)∈fm0'->d∈fm0.map (·.1):=λd A L=>by rw[<-ze];exact iJ.2 ⟨_,L,J⟩
 have yX:∀d A,(d,A)∈fm0'->fV F0.N g1 W' d A:=λd A L=>R.cX d A (by have gM:d≠0:=Pt d<|I d A L;simp[St.kn,p',S,Ne.symm gM,Ei d A L])
 have hex:∀d∈fm0.map (·.1),∃A,S d fm0=ad A:=λd B=>by obtain⟨p,hp,rfl⟩:=iJ.1 B;exact⟨p.2,agF lD hp⟩
 have Q4:∀x,F0.N x->F.N x:=λx hx=>by
  rcases hx with hx|hx
  .exact .inl<|bm z.below.size hx
  .exact(Jy x hx).1
 have hM:∀{M A},(St.kn ⟨[(0,bf)],yk T fm0',0,[]⟩) (.m M)=ad (.b A)->∃d O,T d=M/\(d,O)∈fm0'/\A=uw T O:=λ{M A} e=>by simp only[St.kn,cG]at e;obtain⟨y,hy,G⟩:=e;cases G;obtain⟨d,O,_,h2,h3,h4⟩:=agE hy;exact⟨d,O,h2,h3,h4⟩
 have hS:∀{t u},(St.kn ⟨[(0,bf)],yk T fm0',0,[]⟩) (.s t)=ad (.v u)->t=0/\u=bf:=λ{t u} e=>by
  simp only[St.kn,S,cG]at e;obtain⟨x,hx,G⟩:=e;cases G;split at hx
  .rename_i e;cases hx;exact⟨e.symm,J⟩
  .cases hx
 refine⟨v,g2,J,J,z.defers,?_,?_,?_,?_,?_,R.sub,?_,z.le.trans R.le,?_,?_⟩
 .intro t u e;obtain⟨rfl,rfl⟩:=hS e;have:=bu.iL hv y5 (cL.refl _) g2.γ;simpa[nl,g2]using this
 .intro M A e;obtain⟨d,O,rfl,h3,rfl⟩:=hM e;refine as' (g:=g2) ?_;refine fV.yW (yX d O h3) (λkk E=>Q4 kk ?_) (hγ d<|I d O h3).symm J ⟨cL.refl _,λM hj=>(hγ M<|agK d O h3 M hj).symm⟩;exact((yX d O h3).block E).1
 .intro M j' A b' kk e e' E yH;obtain⟨d,O,rfl,h3,rfl⟩:=hM e;obtain⟨rH,b0',rfl,Bl,rfl⟩:=hM e';obtain⟨x,hx⟩:=hex d<|I d O h3;obtain⟨x',Ho⟩:=hex rH<|I rH b0' Bl;exact z.inj _ _ _ _ kk (by simp[St.kn,F7 Q hx];rfl) (by simp[St.kn,F7 Q Ho];rfl) E yH
 .intro key x e d B;cases key with
  |s t=>
   cases x with
   |v u=>obtain⟨rfl,rfl⟩:=hS e;exact absurd B (by simp[Info.ak,y5])
   |b b'=>simp only[St.kn,cG]at e;obtain⟨_,_,G⟩:=e;cases G
  |m M=>
   cases x with
   |v v'=>simp only[St.kn,cG]at e;obtain⟨_,_,G⟩:=e;cases G
   |b b'=>
    obtain⟨i,O,rfl,h3,rfl⟩:=hM e
    have B:d∈(uw T O).ak:=B
    rw[atb]at B
    obtain⟨q,hq,rfl⟩:=iJ.1 B
    exact(hd q<|agK i O h3 q hq).2
 .intro M x e;cases x with
  |v v'=>simp only[St.kn,cG]at e;obtain⟨_,_,G⟩:=e;cases G
  |b b'=>
   obtain⟨i,O,rfl,h3,rfl⟩:=hM e
   exact(hd i<|I i O h3).2
 .refine⟨R.below.os.trans z.below.os,R.below.tape.trans z.below.tape,R.below.output.trans z.below.output,bm z.below.size R.below.size,λkk E nj=>?_⟩;rw[R.below.block kk (iI E z.below.size) (λho=>?_)]
  .exact z.below.block kk E nj
  .rcases(Jy kk ho).1 with h2|h2
   .exact absurd E<|Nat.not_lt.2 h2
   .exact nj h2
 .intro A o l6 nj;show g1.H A o=F.H0 A o;rw[R.fresh A o (iI l6 z.below.size) (λho=>?_)]
  .exact z.fresh A o l6 nj
  .rcases(Jy A ho).1 with h2|h2
   .exact absurd l6<|Nat.not_lt.2 h2
   .exact nj h2
 .intro d B;exact⟨(z.gK d B).1,(z.gK d B).2⟩
def J1:V (Y×aG)->V (Y×aG)->Prop
 |[],_=>True
 | (id,a)::d,mem=>S id mem=ad a/\J1 d mem
def J1.get{mem:V (Y×aG)}:∀{fm:V (Y×aG)},J1 fm mem->∀d f,S d fm=ad f->S d mem=ad f
 |[],_,_,_,a=>by cases a
 | (i,x)::fm,g,d,f,a=>by
  simp only[S]at a;split at a
  .rename_i k;cases a;subst k;exact g.1
  .exact J1.get g.2 d f a
def atg{d}{i}{u}{fm a mem}{k y l}{A n}(B:a.map (·.1)=fm.map (·.1)):
  St.kn ⟨(d,i)::u,a++mem,y,A⟩=bs (St.kn ⟨u,mem,l,n⟩) ((.s d,ad<|.v i)::(o0 a fm++kY k a)):=by
 have f:∀(fm a:V (Y×aG)),a.map (·.1)=fm.map (·.1)->∀j,(S j a).isSome=(S j fm).isSome:=by
  intro fm;induction fm with
  |nil=>
   intro a h j;have:a=[]:=by simpa using h
   subst this;rfl
  |cons p i C=>
   intro a h j
   cases a with
   |nil=>cases h
   |cons K H=>
    simp only[il,KB]at h
    simp only[S,h.1]
    split
    .rfl
    .exact C H h.2 j
 funext key
 cases key with
 |s t=>
  by_cases e:d=t
  .subst e;simp[St.kn,S,bs,aE]
  .simp[St.kn,S,bs,aE,e,ug,D6,yS]
 |m j=>
  have g:=f fm a B j
  simp only[St.kn,bs,aE,reduceCtorEq,bN,ug,Hk,yT,Ee]
  cases h2:S j a with
  |none=>
   rw[h2]at g
   have o:(S j fm).isSome=ah:=g.symm
   simp[o]
  |some x=>
   rw[h2]at g
   have o:(S j fm).isSome=ae:=g.symm
   simp[o]
def ath{a}{f}{args:V Operand}{d}{is}:∀kx∈cJ a f++args.flatMap (cJ a)++fL a d++fL a is,a.kn kx.1=ad kx.2:=by
 intro kx h;simp only[bg]at h;rcases h with((h|h)|h)|h
 .exact eD a f kx h
 .obtain⟨x,_,h⟩:=jb.1 h;exact eD a x kx h
 .exact kr a d kx h
 .exact kr a is kx h
end
section
variable{n:Y}{sl cr:V (Y×AV)}{mem cp:V (Y×aG)}{nx n0 cF i i':Y}{gd cD:V (Y×Bool)}{ops:Array Oper}{draw:Bool}{os dS:V Oper}{ks dJ:V Ks}{p:Pr}{R:St->Prop}{d:Y}{ty:TypeId}{pos:String}{iM:Array Edge}
def rcX{U}{args}{v}{f}{vs}{x}{fm m}{y}(s:runs dY n nx draw ops.toList os i ⟨sl,mem,n0,gd⟩ .t ks=(⟨ad d,.call ⟨.value U,args,v⟩,ty,pos,iM,none⟩::dS,i',⟨cr,cp,cF,cD⟩,p,dJ))
  (ht:vM ⟨cr,cp,cF,cD⟩ U args.toList=ad (f,vs,x)) (hf:CX q f vs fm (1000000*nx+1000*i') y m (1000000*nx+1000*i')) (A:J1 fm cp) (hs:m.map (·.1)=fm.map (·.1))
  (hk:∀k,RG q n ops draw nx (i'+1) dS ⟨(d,y)::cr,m++cp,cF,cD⟩ (dJ++[k]) R)
  (B:w7 (1000000*nx+1000*i') (cR vs)=ae:=by rfl) (H:vF (1000000*nx+1000*i') fm=ae:=by rfl) (L:yU (1000000*nx+1000*i') fm y.ak=ae:=by rfl) (M:yV (1000000*nx+1000*i') fm m=ae:=by rfl)
  (hp:p:=by exact QE) (P:Nat.blt d n=ae:=by rfl):RG q n ops draw nx i os ⟨sl,mem,n0,gd⟩ ks R:=
 kU cv s hp (aei (k:=(_,_)) (λb=>by
  have c:=Ye b J J (c8 P) J ht hf B H L M A.get;intro F C Q o e g W a K X u T j;refine c F C Q o e g W a K (λw l=>?_) u T<|λz D E G=>j z D E<|G.weaken<|λw l=>?_
  .omega
  .rcases l with l|l
   .exact .inl l
   .omega) ath (atg hs) (λ_ s=>s) (λ_ s=>s) (hk _))
end
open Rx
def sC(a d:V e):e:=if cx a d=[]then 1 else(E (cx a d) (Z (cx a d)-1) 0)⁻¹
def q8(a d u n:V e):V e:=eF (sC a d)<|fQ u<|ml (cM a d) n
def lz:Y->V e->V e->V e->V e->V e×V e
 |0,_,_,u,n=>(u,n)
 |k+1,a,d,u,n=>if d=[]then(u,n)else lz k d (dr<|cx a d) n (q8 a d u n)
def yl(s:Y):Y->V e->V e->V e->V e->Prop
 |0,_,d,_,_=>d=[]
 |k+1,a,d,u,n=>d=[]\/(xK s a d/\r q 67 [I .q (cM a d),I .q n] (I .q<|ml (cM a d) n)/\r q 74 [I .q u,I .q<|ml (cM a d) n] (I .q<|fQ u<|ml (cM a d) n)/\
   r q 75 [aQ (sC a d),I .q<|fQ u<|ml (cM a d) n] (I .q<|q8 a d u n)/\yl s k d (dr<|cx a d) n (q8 a d u n))
abbrev jP(x:V e):aG:= .box 29 0 [.S .q x]
def ati{y u n p d v:V e}{A}(l:r q 67 [I .q y,I .q n] (I .q p))(m:r q 74 [I .q u,I .q p] (I .q d))(o:r q 75 [aQ A,I .q d] (I .q v)){i j k}(s:i≠j)(H:i<k)(hj:j<k):
  CX q 113 [I .q y,aQ A,.c<|.P i 0,.c<|.P j 0] [(i,jP n),(j,jP u)] k (.t []) [(i,jP v),(j,jP n)] k:=by
 refine agJ (λx=>if x=2 then i else j) (fm0:=[(2,jP n),(3,jP u)]) (fm0':=[(2,jP v),(3,jP n)]) (vs0:=[I .q y,aQ A,.c<|.P 2 0,.c<|.P 3 0]) Tryz.func113 J J ?_ J J J ?_ ?_ ?_ ?_ J ?_ J (by decide:([2,3]:V Y).Nodup)
 .refine N J<|cu<|rc J J l<|rc J J m<|rc J J o<|z J ?_;exact G5 (st':=⟨[],[p' [2,3],(2,jP v),(3,jP n)],3,[]⟩) aM<|atc cv J
 .intro f g;have:f=2\/f=3:=by simpa using g
  rcases this with rfl|rfl
  .exact⟨D,by simpa using H⟩
  .exact⟨D,ot⟩
 .intro a ha b hb h;have ha:a=2\/a=3:=yI;have hb:b=2\/b=3:=tW;rcases ha with rfl|rfl<;>rcases hb with rfl|rfl<;>simp at h<;>first|rfl|exact absurd h s|exact absurd h.symm s
 .intro f g;have:f=2\/f=3:=by simpa[cR,AV.ak,bV,C.ak,av]using g
  simpa using this
 .intro f b hb x B;have:x∈([]:V Y):=by simp only[b9,bM,Pv,or_false]at hb;rcases hb with⟨_,rfl⟩|⟨_,rfl⟩<;>simpa[aG.ak,bV,C.ak]using B
  cases this
 .intro f b hb x B;have:x∈([]:V Y):=by simp only[b9,bM,Pv,or_false]at hb;rcases hb with⟨_,rfl⟩|⟨_,rfl⟩<;>simpa[aG.ak,bV,C.ak]using B
  cases this
abbrev C1(i a:Y):aG:= .hY 113 [] [(ah,[.P i 0]),(ah,[.P a 0])]
def atj{s}(h1:1<=s)(hs:s<=100000000000){m}{a d u n}(p:yl s m a d u n){ic i j k}(M:ic≠i)(Q:ic≠j)(T:i≠j)(hc:ic<k)(hi:i<k)(hj:j<k):
  CX q 112 [I .q a,I .q d,.c<|.X ic] [(ic,C1 i j),(i,jP n),(j,jP u)] k (I .q<|fg m a d) [(ic,C1 i j),(i,jP (lz m a d u n).2),(j,jP (lz m a d u n).1)] k:=by
 refine agJ (λx=>if x=2 then ic else if x=3 then i else j) (fm0:=[(2,C1 3 4),(3,jP n),(4,jP u)]) (fm0':=[(2,C1 3 4),(3,jP (lz m a d u n).2),(4,jP (lz m a d u n).1)]) (vs0:=[I .q a,I .q d,.c<|.X 2]) Tryz.func112 J J ?_ J J J ?_ ?_ ?_ ?_ J ?_ J (by decide:([2,3,4]:V Y).Nodup)
 .refine N J<|du<|au<|a8 (α:=Y×(V e×V e)×V e×V e) (λx=>⟨[(0,I .q x.2.1.1),(1,I .q x.2.1.2),(2,.c<|.X 2)],[p' [2,3,4],(2,C1 3 4),(3,jP x.2.2.2),(4,jP x.2.2.1)],2,[]⟩) (λx=>yl s x.1 x.2.1.1 x.2.1.2 x.2.2.1 x.2.2.2/\fg x.1 x.2.1.1 x.2.1.2=fg m a d/\lz x.1 x.2.1.1 x.2.1.2 x.2.2.1 x.2.2.2=lz m a d u n) (λx=>x.1) (m,(a,d),u,n) ⟨p,J,J⟩ aM ?_;obtain⟨U,hU⟩:∃U,U=lz m a d u n:=⟨_,J⟩;rw[<-hU];clear p;rintro⟨t,⟨f,g⟩,u,n⟩ ⟨h2,y,l⟩;simp only at h2 y l;refine du (N J<|al J (λA=>?_)<|λA=>?_)
  .have L:g≠[]:=λdN=>by subst dN;cases A
   clear A;cases t with
   |zero=>exact absurd h2 L
   |succ t=>
    rw[yl]at h2
    rcases h2 with h2|⟨h2,c1,c2,c3,h5⟩
    .exact absurd h2 L
    rw[fg,w L]at y
    rw[lz,w L]at l
    have ze:=agz h1 hs L h2
    have Ip:=pE (a:=f) L
    have lb:=h2.lb
    have W:=h2.rn
    have B:=h2.qr
    have o:sC f g=if cx f g=[]then 1 else(E (cx f g) (Z (cx f g)-1) 0)⁻¹ :=rfl
    generalize hS:q8 f g u n=S at*
    generalize sC f g=c at*
    generalize cM f g=qx at*
    generalize cx f g=r at*
    refine cP<|aL<|au<|F<|rc J J ze<|z J<|F<|rc J J (SI 1 D D)<|z J<|jH ⟨[(1,I .q g),(2,.c<|.X 2),(7,I .q qx),(8,I .q<|dr r),(10,.c<|.P 4001000 0)],[p' [2,3,4],(2,C1 3 4),(3,jP n),(4,jP u),(4001000,.box 44 0<|av .q c)],20,[]⟩ ?_<|λR=>N J ?_
    .refine F<|rcX J J (ati (i:=3) (j:=4) c1 c2 c3 D D D) ⟨J,J,h⟩ J<|λkk=>z J<|rt J<|eE<|aT (t,(g,dr r),n,S) ⟨h5,y,l⟩ (dK t) aM
    .refine al J (λh6=>?_) (λh6=>cP ?_)
     .have v:r≠[]:=λdN=>by subst dN;cases h6
      rw[w v]at o;have hi:=amo O r v O (W v)<|B _;have hiv:=(B<|Z r-1).inv<|W v;rw[<-o]at hi hiv;have B9:=SS h1 O c r O hiv B;rw[show fC (rY c r)=dr r by rw[dr,w v,o]]at B9;exact bt J J hi J<|cu<|rc J J B9<|z J<|dB R<|wk (bO J) ⟨bR J,bR J,bR J,bR J,bE J J,h⟩
     .have v:r=[]:=by have h6:¬(Z r:G)>0:=a6 h6;exact eT O
      rw[b v]at o;subst v o;exact dB R<|wk (bO J) ⟨bR J,bR J,bR J,bR J,bE J J,h⟩
  .have A:g=[]:=by have A:¬(Z g:G)>0:=a6 A;exact eT O
   subst A;have y:f=fg m a d:=by
    cases t with
    |zero=>exact y
    |succ t=>rwa[fg,b J]at y
   have l:(u,n)=U:=by
    cases t with
    |zero=>exact l
    |succ t=>rw[lz,b J]at l;exact l
   rw[<-y,<-l];exact a7<|aL<|N J<|bL<|G5 (st':=⟨[(6,I .q f)],[p' [2,3,4],(2,C1 3 4),(3,jP n),(4,jP u)],20,[]⟩) aM<|aej cv J
 .intro H K;have:H=2\/H=3\/H=4:=by simpa using K
  rcases this with rfl|rfl|rfl
  .exact⟨D,by simpa using hc⟩
  .exact⟨D,by simpa using hi⟩
  .exact⟨D,ot⟩
 .intro a ha d hb p;have ha:a=2\/a=3\/a=4:=yI;have hb:d=2\/d=3\/d=4:=tW;rcases ha with rfl|rfl|rfl<;>rcases hb with rfl|rfl|rfl<;>simp at p<;>first|rfl|exact absurd p M|exact absurd p.symm M|exact absurd p Q|exact absurd p.symm Q|exact absurd p T|exact absurd p.symm T
 .intro H K;have:H=2:=by simpa[cR,AV.ak,bV,C.ak,av]using K
  simp[this]
 .intro H d hb x hx;have:x=3\/x=4:=by simp only[b9,bM,Pv,or_false]at hb;rcases hb with⟨_,rfl⟩|⟨_,rfl⟩|⟨_,rfl⟩<;>simpa[aG.ak,eW,bV,C.ak]using hx
  rcases this with rfl|rfl<;>simp
 .intro H d hb x hx;have:x=3\/x=4:=by simp only[b9,bM,Pv,or_false]at hb;rcases hb with⟨_,rfl⟩|⟨_,rfl⟩|⟨_,rfl⟩<;>simpa[aG.ak,eW,bV,C.ak]using hx
  rcases this with rfl|rfl<;>simp
def atk:r q 111 [R 1] (I .q [1]):=hJ (l:=[]) h dZ J J
def atl:r q 111 [R 0] (I .q []):=hJ (l:=[]) h dZ J J
def atm{s}(h1:1<=s)(hs:s<=100000000000){L}{a m f U g W pe u p d v x1 x2 x3:V e}{o}(l:yl s L a m [1] [])(hr:fg L a m=f)(hU:(lz L a m [1] []).1=U)(hb:m≠[])(r0:f≠[])(lr:Z f<=1000)(hc:E f (Z f-1) 0=o)
  (x:r q 114 [I .q f] (I .q g)) (y:r q 115 [aQ o] (.t [(ae,av .q o⁻¹),(ah,[.I .i64 0])])) (A:r q 75 [aQ o⁻¹,I .q U] (I .q W))
  (M:r q 65 [I .q m,I .q g] (.t [(ah,[.S .q pe]),(ah,[.S .q x1]),(ah,[.I .i64 0])])) (Q:r q 65 [I .q W,I .q pe] (.t [(ah,[.S .q x2]),(ah,[.S .q u]),(ah,[.I .i64 0])]))
  (B:r q 67 [I .q u,I .q a] (I .q p)) (H:r q 74 [I .q g,I .q p] (I .q d)) (T:r q 65 [I .q d,I .q m] (.t [(ah,[.S .q v]),(ah,[.S .q x3]),(ah,[.I .i64 0])])):
  r q 63 [I .q a,I .q m] (.t [(ah,[.S .q g]),(ah,[.S .q u]),(ah,[.S .q v])]):=by
 refine aI Tryz.func63 ?_
 have K:=bQ.2 hb
 have X:=bQ.2 r0
 have C:=atj h1 hs l (ic:=2002000) (i:=1003000) (j:=1002000) (k:=2003000) D D D D D D
 rw[hr,hU]at C
 generalize (lz L a m [1] []).2=R at C
 refine N J<|F<|rc J J atk<|rc J J atl<|z J ?_
 refine F<|ap5 J J J<|λw=>rcX J J C ⟨J,J,J,h⟩ J<|λw=>z J ?_
 refine eP (st':=⟨[(0,I .q a),(1,I .q m),(7,.c<|.P 1002000 0),(9,I .q f)],[(1002000,jP U)],3,[]⟩) aM ?_
 refine j<|N J<|al J (λl=>?_)<|λl=>aD ?_
 .have l:(Z f:G)=0:=eq_of_beq l;exact absurd l O
 have n:r q 115 [aQ (E f (af<|(Z f:G)-1) 0)] (.t [(ae,av .q o⁻¹),(ah,[.I .i64 0])]):=by rw[(O:af ((Z f:G)-1)=Z f-1),hc];exact y
 refine F<|rc J J x<|z J<|F<|rc J J n (z J ?_) (hp:=aF)
 refine F<|rc J J A<|z J ?_
 refine j<|N J<|al J (λl=>?_)<|λl=>aD ?_
 .have l:(Z m:G)=0:=eq_of_beq l;exact absurd l O
 refine F<|rc J J M<|z J<|F<|rc J J Q<|z J ?_
 refine F<|rc J J B<|rc J J H<|rc J J T<|z J ?_
 exact N J<|cw J
def Rx.Ht.inv{M k}{A}(a:Ht M A)(d:A k≠0):Ht M (K (A k)⁻¹):=by
 let ⟨D,g,h2,l⟩:=a;let ⟨z,m,f⟩:=l k;have n:z≠0:=λo=>by
  subst o;have:(D:e)*A k=0:=f;rcases zv.1 this with a|a
  .exact zH g a
  .exact d a
 refine⟨z,n,m,λi=>?_⟩;rw[mj];split
 .refine⟨D,h2,?_⟩;rw[<-f,ny,Rat.mul_inv_cancel _ d,tj]
 .exact⟨0,aY _,fH _⟩
def Rx.Ht.one{M}(a:1<=M):Ht M (K 1):=⟨1,D,a,λi=>by
 rw[mj];split
 .exact⟨1,a,tj _⟩
 .exact⟨0,aY _,fH _⟩⟩
def atn{n t}{a d}(f:Pz n t (cx a d)):Ht (2^t) (K<|sC a d):=by
 unfold sC;split
 .exact Ht.one<|gQ D
 .rename_i g;exact f.ht.inv (k:=Z (cx a d)-1)<|f.can.ne g
def Rx.Ht.Pw{t s}{a}(d:Ht (2^t) (K a))(f:t<32*s):QS s a:=by have:=d.qs (mU f) 0;rwa[mj,b J]at this
def agN{d t}(a:1<=d):t+(t+1)*(d+1)+1<=(t+1)*3^d:=by have:=three a;have f:=fN (t+1) this;rw[vY]at f;rw[vY];omega
def agO{s t l w d}{a f u n}(k:Pz 12 t a)(m:Pz 12 t f)(o:f≠[])(x:Pz l w u)(y:Pz l w n)(p:Z a+1-Z f<=d)(g:d<=12)(L:l+11<=400)(v:s<=100000000000)(M:2*w+2*(t+(t+1)*d)+t+6<32*s):
  xK s a f/\r q 67 [I .q (cM a f),I .q n] (I .q<|ml (cM a f) n)/\r q 74 [I .q u,I .q<|ml (cM a f) n] (I .q<|fQ u<|ml (cM a f) n)/\
   r q 75 [aQ (sC a f),I .q<|fQ u<|ml (cM a f) n] (I .q<|q8 a f u n)/\Pz 12 (t+(t+1)*d) (dr<|cx a f)/\Pz (l+11) (2*w+2*(t+(t+1)*d)+5) (q8 a f u n):=by
 have A:Pz 12 (t+(t+1)*d) (cM a f):=(k.quo m o p).le g<|aO _
 have B:Pz 12 (t+(t+1)*d) (cx a f):=k.rem m o p
 have C:=atn B
 have H:=A.mul y D
 have i:=x.sub H
 have K:=i.qP C
 exact⟨k.zJ m o p D D O,V7 A y D O O v,x.V8 H (s:=s) O O O O v,
  i.agy (C.Pw O) O O v,B.aJ,K.le O O⟩
def agP{A0 M0:Rx}:∀(k:Y)(a d u n:V e),bI a->bI d->Z d<k->M0∣lx a-lx u*A0->M0∣lx d-lx n*A0->M0∣lx (fg k a d)-lx (lz k a d u n).1*A0
 |0,_,_,_,_,_,_,y,_,_=>by omega
 |k+1,a,d,u,n,o,g,A,l,h2=>by
  rw[fg,lz];split
  .exact l
  .rename_i m;have p:Z (dr<|cx a d)<Z d:=by rw[B4 (qM o)];exact pE m
   refine agP k d (dr<|cx a d) n (q8 a d u n) g (pJ _) O h2 ?_;have s:lx (dr<|cx a d)=K (sC a d)*lx (cx a d):=by
    unfold sC;split
    .rename_i f;rw[f,IQ,kE,Rx.mul_zero]
    .rename_i f;exact uI f
   have t:=B3 (a:=a) g m;have v:lx (cx a d)=lx a-lx (cM a d)*lx d:=xL (by rw[Rx.add_comm];exact t.symm);rw[s,q8,B8,Ca,uJ,v];have x:K (sC a d)*(lx a-lx (cM a d)*lx d)-K (sC a d)*(lx u-lx (cM a d)*lx n)*A0=K (sC a d)*((lx a-lx u*A0)-lx (cM a d)*(lx d-lx n*A0)):=by
    simp only[Rx.mul_sub,Rx.sub_mul,Rx.mul_assoc];refine ext λi=>?_
    simp only[lO];grind
   rw[x];exact dw (dvd_sub l<|dw h2 _) _
def C2:lx [1]=1:=xM 1
def J2:bI [(1:e)]:= .inr (D:(1:e)≠0)
def ym n t(a:1<=n):Pz n t [1]:=⟨J2,a,by rw[xM];exact Ht.one<|gQ D⟩
def agQ{m}(d:bI m):cM m [1]=m:=oD (zD _ _) d (by have:=zE d J2 D (a:=m) (by rw[C2];exact⟨lx m,(Rx.mul_one _).symm⟩);rw[C2,Rx.mul_one]at this;exact this.symm)
def V'{m a}(f:bI m)(g:bq (lx m))(d:bI a)(i:a≠[])(k:Z a<Z m):Co (lx m) (lx a):=by
 rcases g.or (lx a)with h|h
 .have:=jJ h<|B2 d i;rw[fY f,fY d]at this;omega
 .exact h
def ato{a}{n d}(f:d≠0)(g:aC n<=2^a)(k:aC d<=2^a):Ht (2^a) (K<|Rat.divInt n d):=⟨d,f,k,λi=>by
 rw[mj];split
 .refine⟨n,g,?_⟩;rw[Np];have:=zH f;rw[zq,BX,ny,lU _ this,tj]
 .exact⟨0,aY _,fH _⟩⟩
def Rx.Ht.X1{M}{A}(a:Ht M A):Ht M (X 1*A):=by
 let ⟨D,d,h2,f⟩:=a;refine⟨D,d,h2,λi=>?_⟩;rw[nt];split
 .exact f _
 .exact⟨0,aY _,fH _⟩
def agR{a:Y}:∀{l:V e},(∀x∈l,Ht (2^a) (K x))->Ht (2^((a+1)*Z l)) (lx l)
 |[],_=>by rw[kE];exact Ht.zero<|gQ D
 |f::l,d=>by rw[Ni];have g:=(d f az).add (agR (a:=a) (l:=l) λx i=>d x<|ko _ i).X1;refine g.le ?_;have:=IU a ((a+1)*Z l) 1;rw[Nat.pow_one]at this;rw[this,ik,vY,qB];exact eQ D O
def atp{a}{l}{d}(g:∀x∈l,Ht (2^a) (K<|qQ x)):Pz (d+1) ((a+1)*(d+1)) (zL l d):=by have f:Z ((c (d+1) l).map qQ)<=d+1:=zN;refine⟨mT _,bm (qN _) f,?_⟩;rw[zL,tm];refine(agR (a:=a) λx i=>?_).le<|eQ D<|fN _ f;obtain⟨y,k,rfl⟩:=iJ.1 i;exact g y<|vi k
def atq{l}{most}(f:∀x∈l,lj x):Pz (most+1) (8*(most+1)) (oG l most):=atp (a:=7) λx g=>by
 obtain⟨y,d,rfl⟩:=iJ.1 g;have d:=f y d;refine ato (abm<|ae5 d) ?_ ?_
 .have:zK (xS y)=y.1:=w (D:¬(0:G)%8=7);rw[this];have:=d.1;omega
 .have:wi (xS y)=oF y.2.1:=w (D:¬(0:G)%8=6);rw[this];unfold oF;have:=d.2.1;split<;>omega
def df.pz{m}(a:df m):Pz 5 7 m:=⟨a.can,a.l5,a.ht⟩
def df.ne{m}(a:df m):m≠[]:=λe=>by have:=a.l2;rw[e]at this;cases this
def agS{m}(a:df m){l}(d:∀x∈l,lj x):Pz 4 32 (oG l<|Z m-2)/\Z (oG l<|Z m-2)<Z m:=by have f:=a.l2;have g:=a.l5;have p:=atq (most:=Z m-2) d;exact⟨p.le O O,by have:=p.len;omega⟩
def atr:r q 35 [I .q []] (cB ae):=hJ (l:=[]) h dZ J J
def ats:r q 37 [I I8 [1]] (I .q [1]):=hJ (l:=[]) h dZ J J
def Pz.att{n t k}{a}(d:Pz n t a)(i:n<=1000)(l:t<32*k)(f:k<=1000000000):r q 35 [I .q a] (cB ae):=by
 by_cases g:a=[]
 .subst g;exact atr
 .exact afL f a (bm d.len i) (d.can.ne g) (d.qs l) g
def Pz.agT{n t k}{a}(g:Pz n t a)(d:V e)(i:n<=1000)(l:t<32*k)(f:k<=1000000000):r q 16 [I .q a,I .q d] (cB<|decide<|a=d):=arF f a d (bm g.len i)<|g.qs l
def Pz.atu{n t k}{a d}(g:Pz n t a)(i:a=d)(l:n<=1000)(m:t<32*k)(f:k<=1000000000):r q 16 [I .q a,I .q d] (cB ae):=by have:=g.agT d l m f;rwa[o9 i]at this
def Pz.Px{n m t u K}{a d}(f:Pz n t a)(g:Pz m u d)(l:n<=12)(o:m<=100)(y:2*t+2*u+100<32*K)(p:K<=200000000000):r q 34 [I .q a,I .q d] (I .q<|ml a d):=
 amU (k:=K/2) O O p a d (bm f.len l) (bm g.len o) (f.qs O) (g.qs O) λj s i=>by
  have v:Ht (2^(t+u+4)) (lx<|jY a d j):=by
   rw[Tl a d j s,<-IU];let ⟨x,d1,d2,d3⟩:=f.ht;refine Ht.mul (n:=2^4) ⟨x,d1,d2,λi=>?_⟩ g.ht ?_ D
   .have e:lx (aA (Z a-j) a) i=lx a (Z a-j+i):=by rw[fX,fX,aK,tT,<-aK]
    rw[e];exact d3 _
   .have:=IA<|aA (Z a-j) a;rw[Bd]at this;have:=f.len;omega
  exact v.qs (mU O) i
def Wa{a f m}{t u}(g:df m)(i:Pz 12 t a)(k:Pz 12 u f)(o:Z a<Z m)(p:Z f<Z m)(v:t+u+200<3200000000000):Pz 4 (t+u+28) (fm a f m)/\(fm a f m).length<Z m/\lx m∣lx (fm a f m)-lx a*lx f/\r q 19 [I .q a,I .q f,I .q m] (I .q<|fm a f m):=by have x:=g.l5;have y:=g.l2;have l:=pE (a:=ml a f) g.ne;have n:=Pz.fm i k g.pz g.ne (d:=3) D O;refine⟨⟨n.can,?_,n.ht.le<|eQ D O⟩,l,Pq g.can g.ne,i.as9 k g.pz g.ne (d:=3) (s:=100000000000) D D D O O D⟩;show(fm a f m).length<=4;have:(fm a f m).length<Z m:=l;omega
def agU a d m:fm a d m=fm d a m:=by rw[fm,fm,am5]
end Go.El
