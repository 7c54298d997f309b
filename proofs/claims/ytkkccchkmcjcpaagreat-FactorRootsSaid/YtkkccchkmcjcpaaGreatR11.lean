/- Contracts: lifting of factors, the second part: the steps. Own work; no condition. -/
import Derived.Test.YtkkccchkmcjcpaaGreatR10
import Derived.Test.YtkkccchkmcjcpaaGreatR7
import Derived.Test.YtkkccchkmcjcpaaGreatR9
import Derived.Test.YtkkccchkmcjcpaaGreatR5
set_option linter.defProp false
set_option linter.unusedVariables false
set_option linter.unusedSimpArgs false
set_option linter.unnecessarySimpa false
namespace Go.El
open Go Go.RowKit Go.Proofs
structure rX(p:Nat)(a:List Int)(l:Nat→List Int)(r k w:Nat):Prop where
 H:tf p l r
 k1:1≤k
 ace:k≤1000
 la:a.length≤400
 acf:w≤1000
 ha:∀i,aU w (a.getD i 0)
 p9:a.length=(ft l p r).length
def acg{F:Nat→List Int}{m:Int}:∀t j,(∀i,i<j+t→1≤(F i).length)→(ft F m j).length≤(ft F m (j+t)).length
 |0,_,_=>bF _
 |t+1,j,h=>by
  have h1:=acg (m:=m) t j λi hi=>h i af
  have h2:=h (j+t) af;have h3:(ft F m (j+(t+1))).length=(ft F m (j+t)).length+(F (j+t)).length-1:=Cw _ _ _;omega
def vJ(a pr:List Int)(next q:Int)(t:Nat):List Int:=(List.range a.length).map λi=>if i<t then(a.getD i 0-pr.getD i 0)%next/q else 0
def yK(a pr:List Int)(next q:Int)(t:Nat):(vJ a pr next q t).length=a.length:=by simp[vJ]
def M7(a pr:List Int)(next q:Int)(t:Nat){i:Nat}(h:i<a.length):(vJ a pr next q t).getD i 0=if i<t then(a.getD i 0-pr.getD i 0)%next/q else 0:=Fg _ _ h
def amV(a pr:List Int)(next q:Int):List.replicate a.length (0:Int)=vJ a pr next q 0:=by
 refine xk (by rw[yK,jv]) λj hj=>?_
 rw[jv]at hj;rw[M7 _ _ _ _ _ hj,aq af,aY,mM,aw hj];rfl
def amW(a pr:List Int)(next q:Int)(t:Nat)(ht:t<a.length):(vJ a pr next q t).set t ((a.getD t 0-pr.getD t 0)%next/q)=vJ a pr next q (t+1):=by
 refine xk (by rw[gK,yK,yK]) λj hj=>?_
 rw[gK,yK]at hj;rw[mq _ _ _ _ (by rw[yK];exact ht),M7 _ _ _ _ _ hj,M7 _ _ _ _ _ hj];by_cases e:t=j
 ·subst e;rw[aw be,aw af]
 ·by_cases e2:j<t
  ·rw[aq af,aw e2,aw af]
  ·rw[aq af,aq e2,aq af]
def amX(a pr:List Int)(next q:Int):vJ a pr next q a.length=AE a pr next q:=by unfold vJ AE;exact List.map_congr_left λi hi=>aw (kR.1 hi)
def Fj{r j:Nat}(h:j<r):((List.range r).map λi=>C.X (1+i))[0+((j:Int)).toNat*1]? =some (.X (1+j)):=by rw[bw,eR,kT,j3,ot h];rfl
section
variable{p:Nat}{a:List Int}{l:Nat→List Int}{r k w:Nat}(A:rX p a l r k w){s:Nat}
include A
def rX.M8(s:Nat):(0:Int)<(p:Int)^s:=sn (by have:=A.H.hp.1;omega)
def rX.qB(s:Nat):aU (s+1) ((p:Int)^s):=ab5 A.H.dj s
def rX.q1(s:Nat):(1:Int)<(p:Int)^(s+1):=by have h1:=A.M8 s;have h2:=A.H.hp.1;rw[fO];have:=ju (show(2:Int)≤(p:Int)by omega) (A8 h1);omega
def rX.FB(s i:Nat)(hi:i<r)(j:Nat):aU (s+2) ((cQ p a l r s i).getD j 0):=by obtain⟨_,h⟩:=A.H.st a s i hi;exact aU.lt (h j).1 (h j).2 (A.qB (s+1))
def rX.IP(s i:Nat)(hi:i<r):(cQ p a l r s i).length=(l i).length:=(A.H.st a s i hi).1
def rX.Fne(s i:Nat)(hi:i<r):cQ p a l r s i≠[]:=λe=>by have h1:=A.IP s i hi;have h2:=A.H.l2 i hi;rw[e]at h1;simp at h1;omega
def rX.aci(s:Nat)(m:Int):(ft (cQ p a l r s) m r).length=a.length:=by rw[A.p9];exact TC r λi hi=>A.IP s i hi
def rX.Ple(s:Nat)(m:Int)(j:Nat)(hj:j≤r):1≤(ft (cQ p a l r s) m j).length∧(ft (cQ p a l r s) m j).length≤a.length:=by
 have h0:∀i,i<r→1≤(cQ p a l r s i).length:=λi hi=>cX.2 (A.Fne s i hi)
 refine⟨ab6 j λi hi=>h0 i af,?_⟩;have h:=acg (F:=cQ p a l r s) (m:=m) (r-j) j λi hi=>h0 i af
 rw[show j+(r-j)=r by omega,A.aci s m]at h;exact h
def rX.PB(s j t:Nat):aU (s+3) ((ft (cQ p a l r s) ((p:Int)^(s+1)*(p:Int)) j).getD t 0):=by have h:=A.q1 (s+1);rw[fO]at h;have h2:=A.qB (s+2);rw[fO]at h2;obtain⟨h3,h4⟩:=amJ (F:=cQ p a l r s) h j t;exact aU.lt h3 h4 h2
end
def gP(p:Nat)(a:List Int)(l:Nat→List Int)(r s i:Nat)(C:List Int)(t:Nat):Nat→List Int:=λq=>if q<i then cQ p a l r (s+1) q else if q=i then uw (cQ p a l r s i) C ((p:Int)^(s+1)) t else cQ p a l r s q
def amZ(p:Nat)(a:List Int)(l:Nat→List Int)(r s i:Nat)(C:List Int)(q:Nat):gP p a l r s i C 0 q=if q<i then cQ p a l r (s+1) q else cQ p a l r s q:=by
 unfold gP;split
 ·rfl
 ·split
  ·rename_i e;subst e;exact amG _ _ _
  ·rfl
def IQ(p:Nat)(a:List Int)(l:Nat→List Int)(r s i:Nat)(C:List Int)(t:Nat):gP p a l r s i C t i=uw (cQ p a l r s i) C ((p:Int)^(s+1)) t:=by unfold gP;rw[aq af,aw ae]
def am0(p:Nat)(a:List Int)(l:Nat→List Int)(r s i:Nat)(C:List Int)(t u:Nat){q:Nat}(h:q≠i):gP p a l r s i C t q=gP p a l r s i C u q:=by unfold gP;rw[aq h,aq h]
def am1(p:Nat)(a:List Int)(l:Nat→List Int)(r s i:Nat)(C:List Int)(hC:nL p a l r ((p:Int)^(s+1)) (cQ p a l r s) i=C)(q:Nat):gP p a l r s i C C.length q=if q<i+1 then cQ p a l r (s+1) q else cQ p a l r s q:=by
 by_cases e:q=i
 ·subst e;rw[IQ,aw af,amI _ (bF _),←hC];rfl
 ·unfold gP;rw[aq e];by_cases e2:q<i
  ·rw[aw e2,aw af]
  ·rw[aq e2,aq af]
set_option maxHeartbeats 8000000 in
def am2{Q:fA}{p:Nat}{l:Nat→List Int}{r:Nat}{a:List Int}{k w:Nat}(A:rX p a l r k w)(y:Code)
  (rest:TR Tryz.prog 231 y ⟨[(9,.c (.L 1002000 0 r (some r))),(19,.c (.P 6001000 0))],[(6001000,.box 44 0 (av .z ((p:Int)^k)))]++eX 1002000 57 r 44 .z (cQ p a l r (k-1)),9,[]⟩ Q) {c0 c1 c2 c3 d0 d1 d2:Code} (hc:Tryz.f97.body=some (.seq c0 (.seq c1 (.seq c2 (.seq c3 (.seq d0 (.seq d1 (.seq d2 y)))))))):
  TR Tryz.prog 231 (.seq d0 (.seq d1 (.seq d2 y))) ⟨[(0,cS .z a),(1,cS TP (je l r p)),(2,cU p),(3,cI k),(9,.c (.L 1002000 0 r (some r))),(10,.c (.X 2002000))],[(2002000,.vec 101 TP (oc p l r r))]++eX 1002000 57 r 44 .z l,5,[]⟩ Q:=by
 generalize hz:y=z at rest⊢
 cases hc
 clear hz
 have hr:=A.H.M2
 have h2:=A.H.hp.1
 have dj:=A.H.dj
 have fX:=A.k1
 have dL:=A.ace
 have Ef:=A.la
 have Fh:(je l r p).length=r:=by simp[je]
 have yh:∀i,i<r→(je l r p).getD i ([],0)=(l i,(p:Int)):=λi hi=>Fg _ _ hi
 have am3:aG Tryz.prog 100 [.c (num .i64 (p:Int)).1] (aZ p):=oH _ af af
 refine rb (rc ae ae am3 (re ae (rr ae ?_)))
 refine wO _ rest (λic=>rr ae (aK (bA (α:=Nat) (λs=>⟨[(0,cS .z a),(1,cS TP (je l r p)),(2,cU p),(9,.c (.L 1002000 0 r (some r))),(10,.c (.X 2002000)),(18,.c (.P 5003000 0)),(19,.c (.P 6001000 0)),(99,cI ((k:Int)-1)),(100,cI s)],[(2002000,.vec 101 TP (oc p l r r)),(5003000,.box 44 0 (av .z (p:Int))),(6001000,.box 44 0 (av .z ((p:Int)^(s+1))))]++eX 1002000 57 r 44 .z (cQ p a l r s),8,[]⟩) (λs=>s+1≤k) (λs=>k-s) 0 af ?_ ?_)))
 ·refine iy ⟨sR ae,sR ae,sR ae,sR ae,sR ae,sR ae,sR ae,sR ae,sR ae,ah⟩ ⟨bR ae,bR ae,bE ae ?_,ah⟩ ae (λq hq=>cz) af;exact az (λz=>aJ.box 44 0 (av .z z)) (by rw[Gg])
 intro s hs
 have hq:=A.M8 (s+1)
 have wM:=A.qB (s+1)
 have eS:(0:Int)<(p:Int)^(s+1)*p:=by rw[←fO];exact A.M8 (s+2)
 have M9:aU (s+3) ((p:Int)^(s+1)*(p:Int)):=by rw[←fO];exact A.qB (s+2)
 have hpS:Sm (p:Int):=Sm.of af
 refine rr ae (aj (ax ae (λh=>?_) (λh=>?_)))
 ·have va:s+1<k:=by have h:(s:Int)<(k:Int)-1:=bc h;omega
  have hmul:=tY ((p:Int)^(s+1)) p (wM.sm af) hpS;have iK:aG Tryz.prog 100 [cI 1] (aZ 1):=oH 1 af af;refine aC (ai (aj (aK (rb (rc ae ae hmul (re ae (rb (rc ae ae iK (rl .z [1] ae ae (re ae ?_))))))))));refine aj (rb (iR ae ae ah (re ae (aK (bA (α:=Nat) (λj=>⟨[(0,cS .z a),(1,cS TP (je l r p)),(2,cU p),(9,.c (.L 1002000 0 r (some r))),(10,.c (.X 2002000)),(18,.c (.P 5003000 0)),(19,.c (.P 6001000 0)),(20,.c (.P 9003000 0)),(21,cS .z (ft (cQ p a l r s) ((p:Int)^(s+1)*(p:Int)) j)),(99,cI ((k:Int)-1)),(100,cI s),(107,.c (.L 1002000 0 r (some r))),(108,cI r),(109,cI j)],[(2002000,.vec 101 TP (oc p l r r)),(5003000,.box 44 0 (av .z (p:Int))),(6001000,.box 44 0 (av .z ((p:Int)^(s+1)))),(9003000,.box 44 0 (av .z ((p:Int)^(s+1)*(p:Int))))]++eX 1002000 57 r 44 .z (cQ p a l r s),12,[]⟩) (λj=>j≤r) (λj=>r-j) 0 (bK _) ?_ ?_)))))
  ·exact iy ⟨sR ae,sR ae,sR ae,sR ae,sR ae,sR ae,sR ae,sR ae,sR ae,sR ae,sR ae,sR ae,sR ae,sR ae,ah⟩ ⟨bR ae,bR ae,bR ae,bR ae,ah⟩ ae (λq hq=>cz) af
  intro j hj;refine rr ae (aj (ax ae (λh=>?_) (λh=>?_)))
  ·have pI:j<r:=by have h:(j:Int)<(r:Int):=bc h;omega
   obtain⟨Bm,qc⟩:=A.Ple s ((p:Int)^(s+1)*(p:Int)) j hj;have HK:=A.IP s j pI;have Rq:=A.H.Ff j pI;have Cx:=amB (ft (cQ p a l r s) ((p:Int)^(s+1)*(p:Int)) j) (cQ p a l r s j) ((p:Int)^(s+1)*(p:Int)) (s+3) (s+2) af af af (λe=>by rw[e]at Bm;simp at Bm) (A.Fne s j pI) eS (A.PB s j) (A.FB s j pI) (M9.le af);refine aC (ai (aj (aK (rb ?_))));refine iR ae ae ?_ (mE ar (c:= .X (1+j)) ae ae ?_ ae (re ae ?_ (ho:=qK gI)))
   ·exact⟨by show(0:Int)≤(j:Int);omega,by show(j:Int)<(r:Int);omega⟩
   ·exact Fj pI
   refine cG (nX (1+j) ae Cx ae cz (re ae ?_ (ho:=qK gI)));refine a7 (ai (rt ae (a8 (j+1) pI (by show r-(j+1)<r-j;omega) (iy ⟨sR ae,sR ae,sR ae,sR ae,sR ae,sR ae,sR ae,sR ae,sR ae,sR ae,sR ae,sR ae,sR ae,sR ae,ah⟩ ⟨⟨_,(bH af).trans ae,dd.refl _⟩,⟨_,(bH af).trans ae,dd.refl _⟩,⟨_,(bH af).trans ae,dd.refl _⟩,⟨_,(bH af).trans ae,dd.refl _⟩,ah⟩ ((bH af).trans ae) (λq hq=>?_) af))));by_cases e:q=j
   ·subst e;exact Cd
   ·refine(bH af).trans ?_;exact cz
  ·have pI:r=j:=by have h:¬(j:Int)<(r:Int):=bC h;omega
   subst pI;have SZ:=A.aci s ((p:Int)^(s+1)*(p:Int));have hPB:=A.PB s r;refine bp (bu (br (bq (ai ?_))));refine rb (rm .z a.length ae ae ae ae ae ae (λg=>BG g) ae ?_ ?_ (re ae ?_))
   ·show _*32≤_;omega
   ·show _*2≤_;omega
   generalize hP:ft (cQ p a l r s) ((p:Int)^(s+1)*(p:Int)) r=P at*;refine aj (rr ae (aK (bA (α:=Nat) (λi=>⟨[(0,cS .z a),(1,cS TP (je l r p)),(2,cU p),(9,.c (.L 1002000 0 r (some r))),(10,.c (.X 2002000)),(18,.c (.P 5003000 0)),(19,.c (.P 6001000 0)),(20,.c (.P 9003000 0)),(21,cS .z P),(24,.c (.X 13002000)),(99,cI ((k:Int)-1)),(100,cI s),(122,cI a.length),(123,cI i)],[(2002000,.vec 101 TP (oc p l r r)),(5003000,.box 44 0 (av .z (p:Int))),(6001000,.box 44 0 (av .z ((p:Int)^(s+1)))),(9003000,.box 44 0 (av .z ((p:Int)^(s+1)*(p:Int)))),(13002000,.vec 44 .z (vJ a P ((p:Int)^(s+1)*(p:Int)) ((p:Int)^(s+1)) i))]++eX 1002000 57 r 44 .z (cQ p a l r s),15,[]⟩) (λi=>i≤a.length) (λi=>a.length-i) 0 (bK _) ?_ ?_)))
   ·exact iy ⟨sR ae,sR ae,sR ae,sR ae,sR ae,sR ae,sR ae,sR ae,sR ae,sR ae,sR ae,sR ae,sR ae,sR ae,ah⟩ ⟨bR ae,bR ae,bR ae,bR ae,⟨_,ae,dd.of_eq (az (aJ.vec 44 .z) (amV a P _ _))⟩,ah⟩ ae (λq hq=>cz) af
   intro i hi;refine rr ae (aj (ax ae (λh=>?_) (λh=>?_)))
   ·have nJ:i<a.length:=by have h:(i:Int)<(a.length:Int):=bc h;omega
    have hw:=A.acf;have eI:aG Tryz.prog 163 [.a (av .z (a.getD ((i:Int)).toNat 0)),.a (av .z (P.getD ((i:Int)).toNat 0))] (aZ (a.getD i 0-P.getD i 0)):=by rw[bw];exact Rg _ _ ((A.ha i).sm af) ((hPB i).sm af)
    have La:=wP (a.getD i 0-P.getD i 0) ((p:Int)^(s+1)*(p:Int)) af (((A.ha i).le (Nat.le_max_left w (s+3))).sub ((hPB i).le (Nat.le_max_right w (s+3)))|>.sm af) (M9.sm af);have rJ:=wP ((a.getD i 0-P.getD i 0)%((p:Int)^(s+1)*(p:Int))) ((p:Int)^(s+1)) af ((aU.emod eS M9).sm af) (wM.sm af);refine aC (ai (aj (aK (rr ae (rb (rc ae ae eI (rc ae ae La (re ae ?_))))))));refine cG (rc ae ae rJ (lO ((a.getD i 0-P.getD i 0)%((p:Int)^(s+1)*(p:Int))/(p:Int)^(s+1)) ae ae ae ae ae ?_ (re ae ?_) (hp:=?_)))
    ·rw[yK,bw];exact nJ
    ·refine a7 (ai (rt ae (a8 (i+1) nJ pQ (iy ⟨sR ae,sR ae,sR ae,sR ae,sR ae,sR ae,sR ae,sR ae,sR ae,sR ae,sR ae,sR ae,sR ae,sR ae,ah⟩ ⟨bR ae,bR ae,bR ae,bR ae,⟨_,ae,dd.of_eq (az (aJ.vec 44 .z) (amW a P _ _ i nJ))⟩,ah⟩ ae (λq hq=>cz) af))))
    ·have:=yK a P ((p:Int)^(s+1)*(p:Int)) ((p:Int)^(s+1)) i;simp only[Pr.an,Pr.h,num,aA,true_and,and_true];omega
   ·have nJ:i=a.length:=by have h:¬(i:Int)<(a.length:Int):=bC h;omega
    subst nJ;have Na:a6 (md p (vJ a P ((p:Int)^(s+1)*(p:Int)) ((p:Int)^(s+1)) a.length))=l6 p a r ((p:Int)^(s+1)) (cQ p a l r s):=by rw[amX,l6,hP]
    have u7:=Td (vJ a P ((p:Int)^(s+1)*(p:Int)) ((p:Int)^(s+1)) a.length) p (by rw[yK];omega) h2 dj (λt=>by
     by_cases ht:t<a.length
     ·rw[M7 _ _ _ _ _ ht,aw ht];exact(aU.ediv (gT _ af) hq (aU.emod eS M9)).sm af
     ·rw[dz _ (by rw[yK];omega)];exact(aU.zero 1).sm af)
    rw[Na]at u7;refine bp (bu (br (bq (ai ?_))));refine H9 13002000 ae ae ae af ?_;refine rb (rc ae ae u7 (re ae ?_));refine aj (rr ae (aK (bA (α:=Nat) (λi=>⟨[(0,cS .z a),(1,cS TP (je l r p)),(2,cU p),(9,.c (.L 1002000 0 r (some r))),(10,.c (.X 2002000)),(18,.c (.P 5003000 0)),(19,.c (.P 6001000 0)),(20,.c (.P 9003000 0)),(29,.c (.P 16003000 0)),(99,cI ((k:Int)-1)),(100,cI s),(155,cS TP (je l r p)),(156,cI r),(157,cI i)],[(2002000,.vec 101 TP (oc p l r r)),(5003000,.box 44 0 (av .z (p:Int))),(6001000,.box 44 0 (av .z ((p:Int)^(s+1)))),(9003000,.box 44 0 (av .z ((p:Int)^(s+1)*(p:Int)))),(16003000,.box 101 0 [.S aM (l6 p a r ((p:Int)^(s+1)) (cQ p a l r s)),.I .u64 p])]++eX 1002000 57 r 44 .z (λq=>if q<i then cQ p a l r (s+1) q else cQ p a l r s q),18,[]⟩) (λi=>i≤r) (λi=>r-i) 0 (bK _) ?_ ?_)))
    ·refine iy ⟨sR ae,sR ae,sR ae,sR ae,sR ae,sR ae,sR ae,sR ae,sR ae,sR ae,sR ae,sR ae,sE ae ?_,sR ae,ah⟩ ⟨bR ae,bR ae,bR ae,bR ae,bR ae,ah⟩ ae (λq hq=>?_) af
     ·exact az (λz:Nat=>cI (z:Int)) Fh
     ·exact cz
    intro i hi;refine rr ae (aj (ax ae (λh=>?_) (λh=>?_)))
    ·have dM:i<r:=by have h:(i:Int)<(r:Int):=bc h;omega
     obtain⟨m1,m2,m3,m4⟩:=A.H.M3 dM a ((p:Int)^(s+1)) (cQ p a l r s);obtain⟨v1,v2,_⟩:=A.H.inv dM;have Er:=A.H.Ff i dM;have HK:=A.IP s i dM;have asV:=TL p l r r (bF _);have yD:aG Tryz.prog 159 [.a (av TP ((je l r p).getD ((i:Int)).toNat ([],0))),aP (l6 p a r ((p:Int)^(s+1)) (cQ p a l r s)) p,.a (av TP ((oc p l r r).getD ((i:Int)).toNat ([],0)))] (aP (nL p a l r ((p:Int)^(s+1)) (cQ p a l r s) i) p):=by rw[bw,yh i dM,amQ p l r dM];exact HL p A.H.hp dj (l i) _ (kO p (dN p l i r) (l i)) af af af (A.H.c i dM) m1 v1 (A.H.ne dM)
     have hFi:=A.FB s i dM;generalize hC:nL p a l r ((p:Int)^(s+1)) (cQ p a l r s) i=C at*;refine aC (ai (aj (aK (rr ae (rb (rc ae ae yD (re ae ?_)))))));refine aK (bA (α:=Nat) (λt=>⟨[(0,cS .z a),(1,cS TP (je l r p)),(2,cU p),(9,.c (.L 1002000 0 r (some r))),(10,.c (.X 2002000)),(18,.c (.P 5003000 0)),(19,.c (.P 6001000 0)),(20,.c (.P 9003000 0)),(29,.c (.P 16003000 0)),(30,cI i),(99,cI ((k:Int)-1)),(100,cI s),(155,cS TP (je l r p)),(156,cI r),(157,cI i),(169,cS aM C),(170,cI C.length),(171,cI t)],[(2002000,.vec 101 TP (oc p l r r)),(5003000,.box 44 0 (av .z (p:Int))),(6001000,.box 44 0 (av .z ((p:Int)^(s+1)))),(9003000,.box 44 0 (av .z ((p:Int)^(s+1)*(p:Int)))),(16003000,.box 101 0 [.S aM (l6 p a r ((p:Int)^(s+1)) (cQ p a l r s)),.I .u64 p])]++eX 1002000 57 r 44 .z (gP p a l r s i C t),21,[]⟩) (λt=>t≤C.length) (λt=>C.length-t) 0 (bK _) ?_ ?_)
     ·refine iy ⟨sR ae,sR ae,sR ae,sR ae,sR ae,sR ae,sR ae,sR ae,sR ae,sR ae,sR ae,sR ae,sR ae,sR ae,sR ae,sR ae,sR ae,sR ae,ah⟩ ⟨bR ae,bR ae,bR ae,bR ae,bR ae,ah⟩ ae (λq hq=>?_) af;refine Eq.trans (cz) (az (λz=>some (aJ.vec 44 .z z)) (amZ p a l r s i C q).symm)
     intro t ht;have hct:=m3.1 t;have Fi:aG Tryz.prog 100 [.c (num .i64 (C.getD ((t:Int)).toNat 0)).1] (aZ (C.getD t 0)):=by rw[bw];exact oH _ af af
     have M6: -9223372036854775808≤C.getD ((t:Int)).toNat 0∧C.getD ((t:Int)).toNat 0≤9223372036854775807:=by rw[bw];omega
     have Ac:aU 1 (C.getD t 0):=aU.one af;have am5:=tY ((p:Int)^(s+1)) (C.getD t 0) (wM.sm af) (Ac.sm af);refine rr ae (aj (ax ae (λh=>?_) (λh=>?_)))
     ·have lM:t<C.length:=by have h:(t:Int)<(C.length:Int):=bc h;omega
      have pG:aG Tryz.prog 103 [.a (av .z ((gP p a l r s i C t i).getD ((t:Int)).toNat 0)),aZ ((p:Int)^(s+1)*C.getD t 0)] (aZ ((cQ p a l r s i).getD t 0+(p:Int)^(s+1)*C.getD t 0)):=by rw[bw,IQ,yI _ _ _ _ _ af,aq af];exact Ad _ _ ((hFi t).sm af) ((wM.mul Ac).sm af)
      have jr:(gP p a l r s i C t i).length=(l i).length:=by rw[IQ,uy,HK]
      have hb:(0:Int)≤(i:Int)∧(i:Int)<(r:Int):=⟨by omega,by omega⟩;refine aC (ai (aj (aK (rr ae (rb (rc ae ae Fi (rc ae ae am5 (re ae ?_)) (hp:=VN)))))));refine cG (iR ae ae hb (mE ar (c:= .X (1+i)) ae ae (Fj dM) ae (iR ae ae hb (mE ar (c:= .X (1+i)) ae ae (Fj dM) ae (rk 1 ae ae ?_)))));refine qI ar (T:= .z) (xs:=gP p a l r s i C t i) ae cz ae ae af (by rw[jr];omega) ?_;refine yy ar ae cz ae ae ae OD ?_;refine rc ae ae pG ?_;refine rk 0 ae ae (qI ar (T:= .z) (xs:=gP p a l r s i C t i) ae cz ae ae af (by rw[jr];omega) ?_);refine Bz ar (T:= .z) (id:=1+i) (xs:=gP p a l r s i C t i) ae cz ae ae ae ((cQ p a l r s i).getD t 0+(p:Int)^(s+1)*C.getD t 0) ae OD ?_;refine re ae ?_ (ho:=qK gI);refine a7 (ai (rt ae (a8 (t+1) lM (by show C.length-(t+1)<C.length-t;omega) (iy ⟨sR ae,sR ae,sR ae,sR ae,sR ae,sR ae,sR ae,sR ae,sR ae,sR ae,sR ae,sR ae,sR ae,sR ae,sR ae,sR ae,sR ae,sR ae,ah⟩ ⟨⟨_,(bH af).trans ae,dd.refl _⟩,⟨_,(bH af).trans ae,dd.refl _⟩,⟨_,(bH af).trans ae,dd.refl _⟩,⟨_,(bH af).trans ae,dd.refl _⟩,⟨_,(bH af).trans ae,dd.refl _⟩,ah⟩ ((bH af).trans ae) (λq hq=>?_) af))));by_cases e:q=i
      ·subst e;refine Cd.trans (az (λz=>some (aJ.vec 44 .z z)) ?_);rw[bw,IQ,IQ];exact amH _ _ _ _ af
      ·refine(bH af).trans (Eq.trans (cz) (az (λz=>some (aJ.vec 44 .z z)) (am0 p a l r s i C t (t+1) e)))
     ·have lM:t=C.length:=by have h:¬(t:Int)<(C.length:Int):=bC h;omega
      subst lM;refine bp (bu (br (bq (a7 (ai (rt ae (a8 (i+1) dM (by show r-(i+1)<r-i;omega) (iy ⟨sR ae,sR ae,sR ae,sR ae,sR ae,sR ae,sR ae,sR ae,sR ae,sR ae,sR ae,sR ae,sR ae,sR ae,ah⟩ ⟨bR ae,bR ae,bR ae,bR ae,bR ae,ah⟩ ae (λq hq=>?_) af))))))));exact Eq.trans (cz) (az (λz=>some (aJ.vec 44 .z z)) (am1 p a l r s i C hC q))
    ·have dM:r=i:=by have h:¬(i:Int)<(r:Int):=bC h;omega
     subst dM;refine bp (bu (br (bq (ai (rt ae (a7 (ai (rt ae (a8 (s+1) va (by show k-(s+1)<k-s;omega) (iy ⟨sR ae,sR ae,sR ae,sR ae,sR ae,sR ae,sR ae,sR ae,sR ae,ah⟩ ⟨bR ae,bR ae,bE ae ?_,ah⟩ ae (λq hq=>?_) af))))))))))
     ·exact az (λz=>aJ.box 44 0 (av .z z)) (fO (p:Int) (s+1)).symm
     ·exact Eq.trans (cz) (az (λz=>some (aJ.vec 44 .z z)) (aw hq))
 ·have va:s+1=k:=by have h:¬(s:Int)<(k:Int)-1:=bC h;omega
  subst va;exact bp (bu (br (bq (my ic (iy ⟨sR ae,sR ae,ah⟩ ⟨bR ae,ah⟩ ae (λq hq=>cz) af)))))
def th(F:List Int)(m:Int)(t:Nat):List Int:=(List.range F.length).map λj=>if j<t then fj (F.getD j 0) m else F.getD j 0
def vK(F:List Int)(m:Int)(t:Nat):(th F m t).length=F.length:=by simp[th]
def Fk(F:List Int)(m:Int)(t:Nat){j:Nat}(h:j<F.length):(th F m t).getD j 0=if j<t then fj (F.getD j 0) m else F.getD j 0:=Fg _ _ h
def acm(F:List Int)(m:Int):th F m 0=F:=by
 refine xk (vK F m 0) λj hj=>?_
 rw[vK]at hj;rw[Fk _ _ _ hj,aq af]
def acn(F:List Int)(m:Int)(t:Nat)(ht:t<F.length):(th F m t).set t (fj (F.getD t 0) m)=th F m (t+1):=by
 refine xk (by rw[gK,vK,vK]) λj hj=>?_
 rw[gK,vK]at hj;rw[mq _ _ _ _ (by rw[vK];exact ht),Fk _ _ _ hj,Fk _ _ _ hj];by_cases e:t=j
 ·subst e;rw[aw be,aw af]
 ·by_cases e2:j<t
  ·rw[aq af,aw e2,aw af]
  ·rw[aq af,aq e2,aq af]
def aco(F:List Int)(m:Int):th F m F.length=F.map (fj · m):=by
 refine nP (by rw[vK,dJ]) λj h1 h2=>?_
 rw[vK]at h1;have h:=Fk F m F.length h1;rw[aw h1,aY,ct (by rw[vK];exact h1),aY,ct h1]at h;rw[si];exact h
def gQ(F:Nat→List Int)(m:Int)(i t:Nat):Nat→List Int:=λq=>if q<i then(F q).map (fj · m)else if q=i then th (F i) m t else F q
def am6(F:Nat→List Int)(m:Int)(i q:Nat):gQ F m i 0 q=if q<i then(F q).map (fj · m)else F q:=by
 unfold gQ;split
 ·rfl
 ·split
  ·rename_i e;subst e;exact acm _ _
  ·rfl
def IS(F:Nat→List Int)(m:Int)(i t:Nat):gQ F m i t i=th (F i) m t:=by unfold gQ;rw[aq af,aw ae]
def am7(F:Nat→List Int)(m:Int)(i t u:Nat){q:Nat}(h:q≠i):gQ F m i t q=gQ F m i u q:=by unfold gQ;rw[aq h,aq h]
def am8(F:Nat→List Int)(m:Int)(i q:Nat):gQ F m i (F i).length q=if q<i+1 then(F q).map (fj · m)else F q:=by
 by_cases e:q=i
 ·subst e;rw[IS,aw af,aco]
 ·unfold gQ;rw[aq e];by_cases e2:q<i
  ·rw[aw e2,aw af]
  ·rw[aq e2,aq af]
def am9{tt:TT}{st:St}{t id:Nat}{E:TypeId}{T:ET}{xs:List T.den}{ti:TI}(h:ao id st.mem=some (.vec E T xs))(ht:ao t tt=some ti){u:TypeId}(hk:ti.kind= .sl u:=by rfl):DO tt st t id=some (cI xs.length):=by simp only[DO,h,ht,hk]
set_option maxHeartbeats 8000000 in
def acp{p:Nat}{l:Nat→List Int}{r:Nat}{a:List Int}{k w:Nat}(A:rX p a l r k w):aG Tryz.prog 97 [cS .z a,cS TP (je l r p),cU p,cI k] (.c (.S (.sl .z) (AF p a l r k))):=by
 refine aX Tryz.func97 ae ae ae ae ae ak ?_;refine amS A.H a k _ (am2 A _ ?_ ae) ae;have hr:=A.H.M2;have fX:=A.k1;have dL:=A.ace;have HK:=λi hi=>A.IP (k-1) i hi
 have hFB:=λi hi=>A.FB (k-1) i hi
 have hmB:=A.qB k;have jq:=A.M8 k;have hL:AF p a l r k=(List.range r).map λq=>(cQ p a l r (k-1) q).map (fj · ((p:Int)^k)):=rfl
 rw[hL];generalize cQ p a l r (k-1)=F at*;generalize (p:Int)^k=m at*;refine aj (rb (iR ae ae ah (re ae (aK (bA (α:=Nat) (λi=>⟨[(9,.c (.L 1002000 0 r (some r))),(19,.c (.P 6001000 0)),(201,cI r),(202,cI i)],[(6001000,.box 44 0 (av .z m))]++eX 1002000 57 r 44 .z (λq=>if q<i then(F q).map (fj · m)else F q),11,[]⟩) (λi=>i≤r) (λi=>r-i) 0 (bK _) ?_ ?_)))))
 ·exact iy ⟨sR ae,sR ae,sR ae,sR ae,ah⟩ ⟨bR ae,ah⟩ ae (λq hq=>cz) af
 intro i hi;refine rr ae (aj (ax ae (λh=>?_) (λh=>?_)))
 ·have dM:i<r:=by have h:(i:Int)<(r:Int):=bc h;omega
  have Er:=A.H.Ff i dM;have hFi:=HK i dM;have hb:(0:Int)≤(i:Int)∧(i:Int)<(r:Int):=⟨by omega,by omega⟩;refine aC (ai (aj (aK (rr ae (rb (iR ae ae hb (mE ar (c:= .X (1+i)) ae ae (Fj dM) ae ?_)))))));refine aj' ar (v:=cI (F i).length) ae ?_ (re ae ?_)
  ·exact am9 (E:=44) (T:= .z) (xs:=F i) (Eq.trans (cz) (az (λz=>some (aJ.vec 44 .z z)) (aq af))) ae
  refine aK (bA (α:=Nat) (λt=>⟨[(9,.c (.L 1002000 0 r (some r))),(19,.c (.P 6001000 0)),(35,cI i),(201,cI r),(202,cI i),(209,cI (F i).length),(210,cI t)],[(6001000,.box 44 0 (av .z m))]++eX 1002000 57 r 44 .z (gQ F m i t),14,[]⟩) (λt=>t≤(F i).length) (λt=>(F i).length-t) 0 (bK _) ?_ ?_)
  ·refine iy ⟨sR ae,sR ae,sR ae,sR ae,sR ae,sR ae,sR ae,ah⟩ ⟨bR ae,ah⟩ ae (λq hq=>?_) af;exact Eq.trans (cz) (az (λz=>some (aJ.vec 44 .z z)) (am6 F m i q).symm)
  intro t ht;refine rr ae (aj (ax ae (λh=>?_) (λh=>?_)))
  ·have lM:t<(F i).length:=by have h:(t:Int)<((F i).length:Int):=bc h;omega
   have jr:(gQ F m i t i).length=(F i).length:=by rw[IS,vK]
   have TM:aG Tryz.prog 164 [.a (av .z ((gQ F m i t i).getD ((t:Int)).toNat 0)),aZ m] (aZ (fj ((F i).getD t 0) m)):=by rw[bw,IS,Fk _ _ _ lM,aq af];exact ab1 _ m (k+1) af jq ((hFB i dM t).sm af) hmB
   refine aC (ai (aj (aK (rr ae (cG ?_)))));refine iR ae ae hb (mE ar (c:= .X (1+i)) ae ae (Fj dM) ae (iR ae ae hb (mE ar (c:= .X (1+i)) ae ae (Fj dM) ae (rk 1 ae ae ?_))));refine qI ar (T:= .z) (xs:=gQ F m i t i) ae cz ae ae af (by rw[jr];omega) ?_;refine yy ar ae cz ae ae ae OD ?_;refine rc ae ae TM ?_;refine rk 0 ae ae (qI ar (T:= .z) (xs:=gQ F m i t i) ae cz ae ae af (by rw[jr];omega) ?_);refine Bz ar (T:= .z) (id:=1+i) (xs:=gQ F m i t i) ae cz ae ae ae (fj ((F i).getD t 0) m) ae OD ?_;refine re ae ?_ (ho:=qK gI);refine a7 (ai (rt ae (a8 (t+1) lM (by show(F i).length-(t+1)<(F i).length-t;omega) (iy ⟨sR ae,sR ae,sR ae,sR ae,sR ae,sR ae,sR ae,ah⟩ ⟨⟨_,(bH af).trans ae,dd.refl _⟩,ah⟩ ((bH af).trans ae) (λq hq=>?_) af))));by_cases e:q=i
   ·subst e;refine Cd.trans (az (λz=>some (aJ.vec 44 .z z)) ?_);rw[bw,IS,IS];exact acn _ _ _ lM
   ·refine(bH af).trans (Eq.trans (cz) (az (λz=>some (aJ.vec 44 .z z)) (am7 F m i t (t+1) e)))
  ·have lM:t=(F i).length:=by have h:¬(t:Int)<((F i).length:Int):=bC h;omega
   subst lM;refine bp (bu (br (bq (a7 (ai (rt ae (a8 (i+1) dM (by show r-(i+1)<r-i;omega) (iy ⟨sR ae,sR ae,sR ae,sR ae,ah⟩ ⟨bR ae,ah⟩ ae (λq hq=>?_) af))))))));exact Eq.trans (cz) (az (λz=>some (aJ.vec 44 .z z)) (am8 F m i q))
 ·have dM:r=i:=by have h:¬(i:Int)<(r:Int):=bC h;omega
  subst dM;refine bp (bu (br (bq (ai ?_))));refine rr ae (aF (akh ar (E:=44) ae ae (λq hq=>?_) af));exact Eq.trans (cz) (az (λz=>some (aJ.vec 44 .z z)) (aw hq))
def pJ(p:Int)(l:Nat→List Int):Nat→List Int
 |0=>[1]
 |i+1=>eC (pJ p l i) (l i) p
def oO(l:Nat→List Int)(p:Int)(r i:Nat):List (List Int×Int):=(List.range i).map (λj=>(l j,p))++List.replicate (r-i) ([],0)
def acq(l:Nat→List Int)(p:Int)(r i:Nat)(h:i≤r):(oO l p r i).length=r:=by unfold oO;simp;omega
def anb(l:Nat→List Int)(p:Int)(r i:Nat)(h:i<r):(oO l p r i).set i (l i,p)=oO l p r (i+1):=by unfold oO;rw[pS _ _ be,show r-i=(r-(i+1))+1 by omega,v9,pW,dZ];simp
def anf(l:Nat→List Int)(p:Int)(r i:Nat):(oO l p r (i+1)).getD i ([],0)=(l i,p):=by unfold oO;rw[aY,FV be,j3,ot af];rfl
def ang(l:Nat→List Int)(p:Int)(r:Nat):oO l p r r=je l r p:=by unfold oO je;rw[iG,wa,kp]
structure LiB(p:Nat)(a:List Int)(Ls:List (List Int))(k w:Nat):Prop where
 A:rX p a (λi=>Ls.getD i []) Ls.length k w
 pm:p≤2147483647
 anh:k≤200
 a0:a≠[]
 a1:a.getD (a.length-1) 0=1
 l1:∀i,i<Ls.length→(Ls.getD i []).getD ((Ls.getD i []).length-1) 0=1
 prc:∀i,i≤Ls.length→bV p (pJ p (λi=>Ls.getD i []) i)∧pJ p (λi=>Ls.getD i []) i≠[]∧(pJ p (λi=>Ls.getD i []) i).length≤400
 prg:∀i,i<Ls.length→(gh p (pJ p (λi=>Ls.getD i []) i) (Ls.getD i [])).length=1
 pra:pJ p (λi=>Ls.getD i []) Ls.length=a6 (md p a)
set_option maxHeartbeats 8000000 in
def ank{p:Nat}{a:List Int}{Ls:List (List Int)}{k w:Nat}(B:LiB p a Ls k w):aG Tryz.prog 29 [cS .z a,cS (.sl aM) Ls,cU p,cI k] (.t [(false,[.S (.sl .z) (AF p a (λi=>Ls.getD i []) Ls.length k)]),(false,[.I .i64 0])]):=by
 refine aX Tryz.func29 ae ae ae ae ae ak ?_;have A:=B.A;have hr:=A.H.M2;have hp:=A.H.hp;have h2:=hp.1;have jI:=B.pm;have dj:=A.H.dj;have fX:=A.k1;have dL:=B.anh;have Ef:=A.la;have hw:=A.acf;have Nb:∀i,Sm (a.getD i 0):=λi=>(A.ha i).sm af
 have TN:=amD a af B.a0 Nb B.a1;refine rr ae (aj (rb (rc ae ae (RH p hp jI) (rg 17 ae ae (λh=>by cases h) (λ_=>rg 21 ae ae (λhb=>?_) (λhb=>?_))))))
 ·exfalso;have hb:(k:Int)<1:=bc hb;omega
 refine rg 25 ae ae (λdK=>?_) (λdK=>?_)
 ·exfalso;have dK:(k:Int)>200:=bc dK;omega
 refine ia ae ae ae ae ae TN (re ae ?_);refine ax ae (λh=>by cases h) (λ_=>aC (ai ?_));refine rb (rm TP Ls.length ae ae ae ae ae ae ab7 ae ?_ ?_ (re ae ?_))
 ·show _*32≤_;omega
 ·show _*2≤_;omega
 refine rb (rl aM [1] ae ae (re ae ?_));refine aj (rr ae (aK (bA (α:=Nat) (λi=>⟨[(0,cS .z a),(1,cS (.sl aM) Ls),(2,cU p),(3,cI k),(10,.c (.X 2002000)),(11,.c (.P 3003000 0)),(36,cS (.sl aM) Ls),(37,cI Ls.length),(38,cI i)],[(2002000,.vec 101 TP (oO (λi=>Ls.getD i []) p Ls.length i)),(3003000,.box 101 0 [.S aM (pJ p (λi=>Ls.getD i []) i),.I .u64 p])],5,[]⟩) (λi=>i≤Ls.length) (λi=>Ls.length-i) 0 (bK _) (wk ⟨sR ae,sR ae,sR ae,sR ae,sR ae,sR ae,sR ae,sR ae,sR ae,ah⟩ ⟨bE ae ae,bR ae,ah⟩) ?_)));intro i hi;refine rr ae (aj (ax ae (λh=>?_) (λh=>?_)))
 ·have dM:i<Ls.length:=by have h:(i:Int)<(Ls.length:Int):=bc h;omega
  have qO:bV p (Ls.getD i []):=A.H.c i dM;have qc:2≤(Ls.getD i []).length:=A.H.l2 i dM;have asX:(Ls.getD i []).length≤100:=A.H.Ff i dM;have Bm:=B.l1 i dM;obtain⟨q1,q2,q3⟩:=B.prc i hi;have hg:=B.prg i dM;have hgL:(oO (λi=>Ls.getD i []) (p:Int) Ls.length (i+1)).getD i ([],0)=(Ls.getD i [],(p:Int)):=anf (λi=>Ls.getD i []) (p:Int) Ls.length i;have hlI:=acq (λi=>Ls.getD i []) (p:Int) Ls.length i hi;have asY:=acq (λi=>Ls.getD i []) (p:Int) Ls.length (i+1) dM;have Lt:(oO (λi=>Ls.getD i []) (p:Int) Ls.length i).set i (Ls.getD i [],(p:Int))=oO (λi=>Ls.getD i []) (p:Int) Ls.length (i+1):=anb (λi=>Ls.getD i []) (p:Int) Ls.length i dM;have ann:pJ p (λi=>Ls.getD i []) (i+1)=eC (pJ p (λi=>Ls.getD i []) i) (Ls.getD i []) p:=rfl;have aN:Ls.getD i []≠[]:=λe=>by rw[e]at qc;simp at qc
  obtain⟨M,M0,M1,oz⟩:=amE (Ls.getD i []) p af aN qO.1;have TO:=LK p hp dj (pJ p (λi=>Ls.getD i []) i) (Ls.getD i []) af af q1 qO q2;have Ak:=tZ (gh p (pJ p (λi=>Ls.getD i []) i) (Ls.getD i [])) p af;have Cx:=Hy (pJ p (λi=>Ls.getD i []) i) (Ls.getD i []) p af af af af q1.1 qO.1;have hn:(Ls.getD ((i:Int)).toNat (ET.kU (.sl aM)))=Ls.getD i []:=az (λz=>Ls.getD z []) (bw i);refine aC (ai (aj (aK (rr ae ?_))));rw[hn];generalize hE:Ls.getD i []=e at*;refine aj (rb (rg 46 ae ae (λhb=>?_) (λhb=>?_)))
  ·exfalso;have hb:(e.length:Int)<2:=bc hb;omega
  have hle:((e.length:Int)-1).toNat=e.length-1:=af;refine rg 55 ae ae (λdK=>?_) (λdK=>?_)
  ·exfalso;have dK:(e.getD ((e.length:Int)-1).toNat 0 !=1)=true:=dK;exact qA dK (by rw[hle];exact Bm)
  refine ia ae ae ae ae ae oz (re ae ?_);refine ax ae (λh=>?_) (λh=>aC (ai ?_))
  ·exfalso;have h:M≥(p:Int):=bc h;omega
  refine rb (lO (e,(p:Int)) ae ae ae ae ae OB (re ae ?_));have tD:(((oO (λi=>Ls.getD i []) (p:Int) Ls.length i).set ((i:Int)).toNat (e,(p:Int))).getD ((i:Int)).toNat ([],0))=(e,(p:Int)):=by rw[bw,Lt];exact hgL
  have hlen:((oO (λi=>Ls.getD i []) (p:Int) Ls.length i).set ((i:Int)).toNat (e,(p:Int))).length=Ls.length:=by rw[gK];exact hlI
  refine aj (rb (rc ae ae (vs:=[aP (pJ p (λi=>Ls.getD i []) i) p,.a (av TP (((oO (λi=>Ls.getD i []) (p:Int) Ls.length i).set ((i:Int)).toNat (e,(p:Int))).getD ((i:Int)).toNat ([],0)))]) (by rw[tD];exact TO) (rc ae ae Ak (re ae ?_))));refine ax ae (λh=>?_) (λh=>aC (ai ?_))
  ·exfalso;have h:((gh p (pJ p (λi=>Ls.getD i []) i) e).length:Int)-1>0:=bc h;omega
  refine cG (rc ae ae (vs:=[aP (pJ p (λi=>Ls.getD i []) i) p,.a (av TP (((oO (λi=>Ls.getD i []) (p:Int) Ls.length i).set ((i:Int)).toNat (e,(p:Int))).getD ((i:Int)).toNat ([],0)))]) (by rw[tD];exact Cx) (re ae ?_));refine a7 (ai (rt ae (a8 (i+1) dM (by show Ls.length-(i+1)<Ls.length-i;omega) (wk ⟨sR ae,sR ae,sR ae,sR ae,sR ae,sR ae,sR ae,sR ae,sR ae,ah⟩ ⟨bE ae ?_,bE ae ?_,ah⟩))))
  ·exact az (aJ.vec 101 TP) (by rw[bw];exact Lt)
  ·rw[ann];rfl
 ·have dM:i=Ls.length:=by have h:¬(i:Int)<(Ls.length:Int):=bC h;omega
  subst dM;obtain⟨q1,q2,q3⟩:=B.prc Ls.length (bF _);have u7:=Td a p af h2 dj Nb;have heq:=amF (pJ p (λi=>Ls.getD i []) Ls.length) (a6 (md p a)) af;refine bp (bu (br (bq (ai ?_))));refine aj (rb (rc ae ae u7 (rc ae ae heq (re ae ?_))));refine ax ae (λh=>?_) (λh=>aC (ai ?_))
  ·exfalso;rw[B.pra]at h;simp at h
  refine fS 2002000 ae ae ae ?_;have Er:=acp A;rw[←ang]at Er;refine rb (rc ae ae Er (re ae (aF (aL ar ae (au.refl _)))))
end Go.El
namespace Go.El
open Go Go.Proofs
def bQ(a:List Int):Prop:=a≠[]∧a.getD (a.length-1) 0=1
def bQ.can{a:List Int}(h:bQ a):can a:= .inr (by rw[h.2];decide)
def bQ.trim{a:List Int}(h:bQ a):a6 a=a:=Y1 h.can
def bQ.md{p:Int}(hp:1<p){a:List Int}(h:bQ a):bQ (md p a):=by refine⟨λe=>h.1 (ik (by rw[←yo p a,e];rfl)),?_⟩;rw[yo,HC,h.2];exact iU ak hp
end Go.El
namespace Go.El
namespace Rx
def zx(a:List Int):Rx:=lx (a.map λx:Int=>(x:Rat))
def l7(a:List Int)(i:Nat):zx a i=((a.getD i 0:Int):Rat):=by show(a.map λx:Int=>(x:Rat)).getD i 0=_;rw[aY,j3,aY];cases a[i]? <;>rfl
def CA(a:List Int):eD (zx a):=eD.of λi=>⟨_,l7 a i⟩
def Nc(a:List Int):nu (zx a)=ps a:=PS.ext λi=>by show(zx a i).num=_;rw[l7];rfl
def ano{a:List Int}(h:can a):dp (a.map λx:Int=>(x:Rat)):=by
 rcases h with h|h
 ·subst h;exact .inl ae
 ·right;rw[dJ];intro e;have h2:=l7 a (a.length-1);rw[show zx a (a.length-1)=0 from e]at h2;exact h (VV.1 h2.symm)
def mL{a:List Int}(h:can a):sz (zx a)=a.length:=by rw[zx,dV (ano h),dJ]
def bQ.can{a:List Int}(h:bQ a):can a:= .inr (by rw[h.2];decide)
def oe{a:List Int}(h:bQ a):Mo (zx a):=by rw[Mo,mL (bQ.can h),l7,h.2];rfl
def anp{a b:List Int}(ha:can a)(hb:can b)(h:zx a=zx b):a=b:=by
 have hg:∀i,a.getD i 0=b.getD i 0:=λi=>by
  have e:zx a i=zx b i:=by rw[h]
  rw[l7,l7]at e;exact Dh.1 e
 refine xk ?_ λj _=>hg j
 have h1:=mL ha;rw[h,mL hb]at h1;exact h1.symm
def Nd{A:Rx}(h:eD A):∃a,can a∧zx a=A:=by
 obtain⟨a,ha,rfl⟩:=kC A;have e:∀i,(a.map Rat.num).getD i 0=(a.getD i 0).num:=λi=>by rw[aY,j3,aY];cases a[i]? <;>rfl
 refine⟨a.map Rat.num,?_,ext λi=>?_⟩
 ·rcases ha with ha|ha
  ·subst ha;exact .inl ae
  ·right;rw[dJ,e];exact λh0=>ha (Rat.num_eq_zero.1 h0)
 ·rw[l7,e];exact(h i).symm
def Nf{a:List Int}(h:can a)(hm:Mo (zx a)):bQ a:=by have h1:=hm;rw[Mo,mL h,l7]at h1;refine⟨λe=>?_,Dh.1 (h1.trans Rat.intCast_one.symm)⟩;subst e;exact hm.ne (show zx []=0 from xi)
def Ng{a b c:List Int}(h:zx a*zx b=zx c):ps a*ps b=ps c:=by rw[←Nc,←Nc,←MS (CA a) (CA b),h,Nc]
def yL(A:PS){n:Nat}(h:∀i,n≤i→A i=0):Rx:=⟨λi=>(A i:Rat),n,λi hi=>by rw[h i hi];rfl⟩
def Nh(A:PS){n:Nat}(h:∀i,n≤i→A i=0):eD (yL A h):=λ_=>rfl
def Ni(A:PS){n:Nat}(h:∀i,n≤i→A i=0):nu (yL A h)=A:=rfl
def anq{A B:Rx}(hA:eD A)(hB:eD B)(h:nu A=nu B):A=B:=ext λi=>by rw[hA.at,hB.at,h]
def acu{A B:Rx}(hA:eD A)(hB:eD B):eD (A+B)∧nu (A+B)=nu A+nu B:=by
 have e:∀i,(A+B) i=(((nu A+nu B) i:Int):Rat):=λi=>by rw[fJ,hA.at,hB.at,←Rat.intCast_add];rfl
 exact⟨eD.of λi=>⟨_,e i⟩,PS.ext λi=>by show((A+B) i).num=_;rw[e];rfl⟩
def TQ(a:List Int):eD (bG (zx a))∧nu (bG (zx a))=rP (ps a):=by
 have e:∀i,bG (zx a) i=((rP (ps a) i:Int):Rat):=λi=>by rw[rW,l7];show _=((((i:Int)+1)*ps a (i+1):Int):Rat);rw[iW];rfl
 exact⟨eD.of λi=>⟨_,e i⟩,PS.ext λi=>by show(bG (zx a) i).num=_;rw[e];rfl⟩
def anr{A:List Int}{n:Nat}(hl:A.length=n+2)(hm:bQ A)(oL:Co (zx A) (bG (zx A))){B:Nat}(h1B:1≤B)(hB:∀i,(A.getD i 0).natAbs≤B)(ans:(2*((2*n+2)*((n+1)*B)))^(2*n+1)≤MW):
  ∃p∈gD,Fx.Co (Fx.fx A:Fx (p:Nat)) (Fx.bG (Fx.fx A)):=by
 have hz:∀i,n+1<i→ps A i=0:=λi hi=>dz A af
 have hdz:∀i,n<i→rP (ps A) i=0:=λi hi=>by show _*ps A (i+1)=0;rw[hz (i+1) af,eo]
 have hBB:B≤(n+1)*B:=by have:=dY B (show 1≤n+1 by omega);omega
 obtain⟨u,v,D,u1,v1,e,hD,aN⟩:=amp (B:=(n+1)*B) af hz hdz (λi=>dG (hB i) hBB) (λi=>by
  by_cases hi:n<i
  ·rw[hdz i hi];exact bK _
  ·show(((i:Int)+1)*ps A (i+1)).natAbs≤_;rw[sj];exact nk af (hB _))
 have hF:=oe hm
 have hFs:sz (zx A)=n+2:=by rw[mL (bQ.can hm),hl]
 have TS:D≠0:=λh0=>by
  subst h0;have eU:yL u u1*zx A+yL v v1*bG (zx A)=0:=by have i1:=(Nh u u1).mul (CA A);have i2:=(Nh v v1).mul (TQ A).1;refine anq (acu i1 i2).1 (λ_=>rfl) ?_;rw[(acu i1 i2).2,MS (Nh u u1) (CA A),MS (Nh v v1) (TQ A).1,Ni,Ni,Nc,(TQ A).2,e,PS.mA];rfl
  have d1:zx A∣yL v v1*bG (zx A):=by refine wV ?_ (dvd_mul_left (zx A) (yL u u1));rw[eU];exact dvd_zero _
  rw[mul_comm]at d1;have d2:=oL.dvd d1;have v0:yL v v1=0:=vq d2 (by have:=vD (A:=yL v v1) (n:=n+1) (λi hi=>by show((v i:Int):Rat)=0;rw[v1 i hi];rfl);omega);rw[v0,zero_mul,add_zero]at eU;have u0:yL u u1=0:=gn λhu=>oJ hu hF.ne eU
  refine aN ae ?_ ?_
  ·rw[←Ni v v1,v0];rfl
  ·rw[←Ni u u1,u0];rfl
 obtain⟨p,hp,fF⟩:=amu TS (dG hD ans)
 refine⟨p,hp,?_⟩
 have H:bI p:=⟨MU hp,by have:=(vI hp).2;omega⟩
 have pu:aW p u:=⟨n,λi hi=>by rw[u1 i hi,df]⟩
 have pv:aW p v:=⟨n+1,λi hi=>by rw[v1 i hi,df]⟩
 obtain⟨d,hd⟩:=Fx.pC H (c:=D) (λe0=>fF (C7 e0))
 refine⟨Fx.K d*Fx.mk u pu,Fx.K d*Fx.mk v pv,?_⟩
 have key:(Fx.mk u pu*Fx.fx A+Fx.mk v pv*Fx.bG (Fx.fx A):Fx p)=Fx.K D:=Fx.mk_congr e ((pu.mul (aW.ps p A)).add (pv.mul (yx (aW.ps p A)))) (aW.K p D)
 rw[Fx.mul_assoc,Fx.mul_assoc,←Fx.mul_add,key]
 exact hd
end Rx
end Go.El
namespace Go.El
open Go Go.Proofs
def gi.mul{p:Int}{A B C:PS}(h:gi p A C)(k:gi p B C)(hA:aW p A):gi p (A*B) C:=by
 obtain⟨U,V,hU,hV,e⟩:=h;obtain⟨U',V',TU,hV',e'⟩:=k;refine⟨U*U',U*A*V'+V,hU.mul TU,((hU.mul hA).mul hV').add hV,?_⟩;have h1:U*U'*(A*B)+(U*A*V'+V)*C=U*A*(U'*B+V'*C)+V*C:=by simp only[PS.mul_add,PS.add_mul];ac_rfl
 rw[h1];exact(((e'.vn (U*A)).oI (V*C)).trans (Cg.of_eq (by rw[PS.mul_one]))).trans e
def gi.one{p:Int}(A:PS):gi p 1 A:=⟨1,0,aW.one p,aW.zero p,Cg.of_eq (by rw[PS.mul_one,PS.zero_mul,PS.add_zero])⟩
def acw{p:Nat}(hp:dH p)(dj:p≤2147483648){l:Nat→List Int}{r i:Nat}(hi:i<r)(hc:∀j,j<r→bV p (l j))(aN:l i≠[])(acx:∀j,j<r→j≠i→gi p (ps (l j)) (ps (l i))):∀j,j≤r→gi p (ps (dN p l i j)) (ps (l i))
 |0,_=>by rw[dN,B0];exact gi.one _
 |j+1,hj=>by
  have ih:=acw hp dj hi hc aN acx j af;have cK:(0:Int)<(p:Int):=by have:=hp.1;omega
  rw[dN];split
  ·exact ih
  ·rename_i e;obtain⟨d1,d2,d3,d4,d5,d6⟩:=k8 hp dj (nD cK (dN p l i j) (l j)).1 (hc i hi) aN;have h1:=(ih.mul (acx j af e) (aW.ps _ _)).cg (wS (dN p l i j) (l j) p).symm (Cg.refl _ _);exact(h1.step (aW.ps _ _) d1).symm
def fv(F:Nat→PS):Nat→PS
 |0=>1
 |j+1=>fv F j*F j
def sS(F C:Nat→PS):Nat→PS
 |0=>0
 |j+1=>sS F C j*F j+fv F j*C j
def uA(F:Nat→PS)(i:Nat):Nat→PS
 |0=>1
 |j+1=>if j=i then uA F i j else uA F i j*F j
def Nj{m:Int}{F G:Nat→PS}:∀r,(∀i,i<r→Cg m (F i) (G i))→Cg m (fv F r) (fv G r)
 |0,_=>Cg.refl _ _
 |r+1,h=>(Nj r λi hi=>h i af).mul (h r af)
def acy{m:Int}{F G C:Nat→PS}:∀r,(∀i,i<r→Cg m (F i) (G i))→Cg m (sS F C r) (sS G C r)
 |0,_=>Cg.refl _ _
 |r+1,h=>((acy r λi hi=>h i af).mul (h r af)).add ((Nj r λi hi=>h i af).qF _)
def Nk{p:Int}{F:Nat→PS}:∀r,(∀i,i<r→aW p (F i))→aW p (fv F r)
 |0,_=>aW.one p
 |r+1,h=>(Nk r λi hi=>h i af).mul (h r af)
def acz{p:Int}{F C:Nat→PS}:∀r,(∀i,i<r→aW p (F i)∧aW p (C i))→aW p (sS F C r)
 |0,_=>aW.zero p
 |r+1,h=>((acz r λi hi=>h i af).mul (h r af).1).add ((Nk r λi hi=>(h i af).1).mul (h r af).2)
def TV{p:Int}{F:Nat→PS}{i:Nat}:∀r,(∀j,j<r→aW p (F j))→aW p (uA F i r)
 |0,_=>aW.one p
 |r+1,h=>by
  rw[uA];split
  ·exact TV r λi hi=>h i af
  ·exact(TV r λi hi=>h i af).mul (h r af)
def acA{F:Nat→PS}{i:Nat}:∀j,j≤i→uA F i j=fv F j
 |0,_=>rfl
 |j+1,h=>by rw[uA,aq af,fv,acA j af]
def Cm(p:Int)(B A A':PS):Prop:=∃W,aW p W∧Cg p A (A'+W*B)
def Cm.of{p:Int}{B A A':PS}(h:Cg p A A'):Cm p B A A':=⟨0,aW.zero p,by rw[PS.zero_mul,PS.add_zero];exact h⟩
def Cm.trans{p:Int}{B A A' A'':PS}(h:Cm p B A A')(k:Cm p B A' A''):Cm p B A A'':=by obtain⟨W,hW,e⟩:=h;obtain⟨V,hV,f⟩:=k;refine⟨V+W,hV.add hW,e.trans ?_⟩;rw[PS.add_mul,←PS.add_assoc];exact f.oI _
def Cm.symm{p:Int}{B A A':PS}(h:Cm p B A A'):Cm p B A' A:=by obtain⟨W,hW,e⟩:=h;refine⟨-W,hW.neg,?_⟩;refine Cg.trans (Cg.of_eq ?_) (e.symm.oI _);rw[PS.neg_mul,PS.add_assoc,PS.add_neg,PS.add_zero]
def Cm.mul{p:Int}{B A A' D D':PS}(hB:aW p B)(hA:aW p A')(hD:aW p D')(h:Cm p B A A')(k:Cm p B D D'):Cm p B (A*D) (A'*D'):=by obtain⟨W,hW,e⟩:=h;obtain⟨V,hV,f⟩:=k;refine⟨A'*V+W*D'+W*V*B,((hA.mul hV).add (hW.mul hD)).add ((hW.mul hV).mul hB),(e.mul f).trans (Cg.of_eq ?_)⟩;simp only[PS.add_mul,PS.mul_add];ac_rfl
def acC{p:Int}{F:Nat→PS}{i:Nat}:∀j,i<j→(∀q,q<j→aW p (F q))→∃V,aW p V∧fv F j=V*F i
 |0,h,_=>by omega
 |j+1,h,hF=>by
  by_cases e:i=j
  ·subst e;exact⟨fv F i,Nk i λq hq=>hF q af,ae⟩
  ·obtain⟨V,hV,e1⟩:=acC (F:=F) (i:=i) j af λq hq=>hF q af
   exact⟨V*F j,hV.mul (hF j af),by rw[fv,e1];ac_rfl⟩
def acD{p:Int}{F C:Nat→PS}{i:Nat}:∀j,i<j→(∀q,q<j→aW p (F q)∧aW p (C q))→Cm p (F i) (sS F C j) (uA F i j*C i)
 |0,h,_=>by omega
 |j+1,h,hF=>by
  by_cases e:i=j
  ·subst e;refine⟨sS F C i,acz i λq hq=>hF q af,Cg.of_eq ?_⟩;rw[sS,uA,aw ae,acA i (bF _)];ac_rfl
  ·obtain⟨W,hW,e1⟩:=acD (C:=C) j (show i<j by omega) λq hq=>hF q af
   obtain⟨V,hV,e2⟩:=acC (p:=p) j (show i<j by omega) λq hq=>(hF q af).1
   refine⟨W*F j+V*C j,(hW.mul (hF j af).1).add (hV.mul (hF j af).2),?_⟩;rw[sS,uA,aq af,e2];refine((e1.qF (F j)).oI _).trans (Cg.of_eq ?_);simp only[PS.add_mul];ac_rfl
def crt{p:Int}{F:Nat→PS}{D:PS}{r:Nat}(hF:∀i,i<r→aW p (F i))(hd:∀i,i<r→∃W,aW p W∧Cg p D (W*F i))(Nl:∀i,i<r→gi p (fv F i) (F i))(hD:aW p D):∀j,j≤r→∃W,aW p W∧Cg p D (W*fv F j)
 |0,_=>⟨D,hD,by rw[fv,PS.mul_one];exact Cg.refl _ _⟩
 |j+1,hj=>by
  obtain⟨W,hW,e1⟩:=crt hF hd Nl hD j af;obtain⟨V,hV,e2⟩:=hd j af;obtain⟨U,U',hU,TU,e3⟩:=Nl j af;refine⟨U*V+U'*W,(hU.mul hV).add (TU.mul hW),?_⟩;have h1:Cg p D ((U*fv F j+U'*F j)*D):=by have:=(e3.qF D).symm;rwa[PS.one_mul]at this
  refine h1.trans ?_;rw[PS.add_mul,fv];refine((e2.vn (U*fv F j)).add (e1.vn (U'*F j))).trans (Cg.of_eq ?_);rw[PS.add_mul];ac_rfl
def og(d:Nat→Nat):Nat→Nat
 |0=>0
 |j+1=>og d j+d j
def Nm{p:Int}{F:Nat→PS}{d:Nat→Nat}:∀r,(∀i,i<r→Dl p (d i+1) (F i))→Dl p (og d r+1) (fv F r)
 |0,_=>Lz p
 |r+1,h=>((Nm r λi hi=>h i af).mul (h r af))
def TW{p:Int}{F:Nat→PS}{d:Nat→Nat}:∀r,(∀i,i<r→Dl p (d i+1) (F i)∧F i (d i)%p=1%p)→fv F r (og d r)%p=1%p
 |0,_=>rfl
 |r+1,h=>by rw[fv,og,(Nm r λi hi=>(h i af).1).top (h r af).1,mR,TW r λi hi=>h i af,(h r af).2,←mR,nm]
def acF{p:Int}{F C:Nat→PS}{d:Nat→Nat}:∀r,(∀i,i<r→Dl p (d i+1) (F i)∧Dl p (d i) (C i))→Dl p (og d r) (sS F C r)
 |0,_=>BW p 0
 |r+1,h=>by refine Dl.add ?_ ((Nm r λi hi=>(h i af).1).mul (h r af).2);have:=(h r af).1.mul (acF r λi hi=>h i af);rw[PS.mul_comm,J4]at this;exact this
def anv{p:Nat}(hp:dH p){F:Nat→PS}{d:Nat→Nat}{D:PS}{r:Nat}(hF:∀i,i<r→Dl p (d i+1) (F i)∧F i (d i)%(p:Int)=1%(p:Int))(hd:∀i,i<r→∃W,aW p W∧Cg p D (W*F i))(Nl:∀i,i<r→gi p (fv F i) (F i))(hD:Dl p (og d r) D):Cg p D 0:=by
 have h2:=hp.1;obtain⟨W,⟨n,hW⟩,e⟩:=crt (λi hi=>⟨_,(hF i hi).1⟩) hd Nl ⟨_,hD⟩ r (bF _);have h1:fv F r (og d r)%(p:Int)≠0:=by rw[TW r hF,iU ak af];decide
 have h3:=Y4 hp hW (Nm r λi hi=>(hF i hi).1) h1 (hD.cg e);refine e.trans ((h3.qF _).trans (Cg.of_eq (PS.zero_mul _)))
def acG{q p:Int}(S8:p∣q){F C:Nat→PS}:∀r,Cg (q*p) (fv (λi=>F i+PS.K q*C i) r) (fv F r+PS.K q*sS F C r)
 |0=>by rw[fv,sS,PS.mul_zero,PS.add_zero];exact Cg.refl _ _
 |r+1=>by
  have ih:=acG S8 (F:=F) (C:=C) r;obtain⟨t,ht⟩:=S8;rw[fv];refine(ih.qF _).trans ⟨PS.K t*(sS F C r*C r),?_⟩;have hqq:PS.K q*PS.K q=PS.K (q*p)*PS.K t:=by rw[←PS.sY,←PS.sY,j5,←ht]
  have e1:(fv F r+PS.K q*sS F C r)*(F r+PS.K q*C r)=fv F r*F r+PS.K q*(sS F C r*F r+fv F r*C r)+PS.K q*PS.K q*(sS F C r*C r):=by simp only[PS.add_mul,PS.mul_add];ac_rfl
  rw[e1,hqq,fv,sS,PS.mul_assoc (PS.K (q*p))]
def acH(F c:List Int)(q:Int)(h:c.length≤F.length):ps (ux F c q)=ps F+PS.K q*ps c:=PS.ext λi=>by
 rw[PS.fJ,PS.gA,dS,dS,dS];by_cases e:i<F.length
 ·rw[ux,yI _ _ _ _ _ e,aw e]
 ·rw[dz _ (by rw[ux,uy];omega),dz F af,dz c af,eo,nl]
def acI(F:Nat→List Int)(m:Int):∀j,Cg m (ps (ft F m j)) (fv (λi=>ps (F i)) j)
 |0=>by rw[ft,B0];exact Cg.refl _ _
 |j+1=>(Ty (ft F m j) (F j) m).trans ((acI F m j).qF _)
def TX(F:Nat→List Int)(m:Int):∀j,(∀i,i<j→1≤(F i).length)→(ft F m j).length=og (λi=>(F i).length-1) j+1
 |0,_=>rfl
 |j+1,h=>by have h1:=h j (fN j);rw[ft,Cw,TX F m j λi hi=>h i af,og];omega
def acJ{d e:Nat→Nat}:∀r,(∀i,i<r→d i=e i)→og d r=og e r
 |0,_=>rfl
 |r+1,h=>by rw[og,og,acJ r λi hi=>h i af,h r af]
structure vL(p:Nat)(a:List Int)(l:Nat→List Int)(r:Nat):Prop where
 H:tf p l r
 mn:∀i,i<r→bQ (l i)
 wU:∀i,i<r→gi p (fv (λi=>ps (l i)) i) (ps (l i))
 am:bQ a
 p9:a.length=(ft l p r).length
 ap:Cg p (ps a) (fv (λi=>ps (l i)) r)
section
variable{p:Nat}{a:List Int}{l:Nat→List Int}{r:Nat}(h:vL p a l r)
include h
def vL.yJ{i:Nat}(hi:i<r):∀j,j≤r→Cm p (ps (l i)) (ps (dN p l i j)) (uA (λi=>ps (l i)) i j)
 |0,_=>by rw[dN,B0];exact Cm.of (Cg.refl _ _)
 |j+1,hj=>by
  have ih:=vL.yJ hi j af;have cK:(0:Int)<(p:Int):=by have:=h.H.hp.1;omega
  rw[dN,uA];split
  ·exact ih
  ·obtain⟨d1,_⟩:=k8 h.H.hp h.H.dj (nD cK (dN p l i j) (l j)).1 (h.H.c i hi) (h.H.ne hi);have h1:Cm p (ps (l i)) (ps (eC (dN p l i j) (l j) p)) (ps (bM (eC (dN p l i j) (l j) p) (l i) p).2):=⟨_,aW.ps _ _,d1.trans (Cg.of_eq (PS.add_comm _ _))⟩;refine h1.symm.trans ((Cm.of (wS _ _ _)).trans ?_);exact Cm.mul (aW.ps _ _) (TV j λq _=>aW.ps _ _) (aW.ps _ _) ih (Cm.of (Cg.refl _ _))
def vL.step{q:Int}(hq:0<q)(AI:(p:Int)∣q){F:Nat→List Int}(hl:∀i,i<r→(F i).length=(l i).length)(hF:∀i,i<r→Cg p (ps (F i)) (ps (l i)))(ht:∀i,i<r→(F i).getD ((l i).length-1) 0=1)(ha:Cg q (ps a) (fv (λi=>ps (F i)) r)):
  Cg (q*p) (ps a) (fv (λi=>ps (ux (F i) (nL p a l r q F i) q)) r):=by
 have hp:=h.H.hp
 have h2:=hp.1
 have cK:(0:Int)<(p:Int):=af
 have IT:=λi hi=>h.H.M3 (i:=i) hi a q F
 have La:a.length=og (λi=>(l i).length-1) r+1:=by rw[h.p9,TX l p r λi hi=>by have:=h.H.l2 i hi;omega]
 obtain⟨U,hU⟩:=ha
 have SZ:(ft F (q*p) r).length=a.length:=by rw[h.p9];exact TC r hl
 have hPc:=acI F (q*p) r
 have hE:∀i,q*U i%(q*(p:Int))=(a.getD i 0-(ft F (q*p) r).getD i 0)%(q*(p:Int)):=λi=>by
  have e1:a.getD i 0=fv (λi=>ps (F i)) r i+q*U i:=by have:=congrFun hU i;rw[PS.fJ,PS.gA]at this;exact this
  rw[e1];obtain⟨t,vA⟩:=hPc.dvd i;have vA:(ft F (q*p) r).getD i 0-fv (λi=>ps (F i)) r i=q*(p:Int)*t:=vA;rw[show fv (λi=>ps (F i)) r i+q*U i-(ft F (q*p) r).getD i 0=q*U i+q*(p:Int)*(-t)by rw[Int.mul_neg];omega,JO]
 have Lj:∀i,(a.getD i 0-(ft F (q*p) r).getD i 0)%(q*(p:Int))/q=U i%p:=λi=>by rw[←hE i,Int.mul_emod_mul_of_pos _ _ hq,Int.mul_ediv_cancel_left _ af]
 have wN:∀i,(a.getD i 0-(ft F (q*p) r).getD i 0)%(q*(p:Int))=0→U i%(p:Int)=0:=λi hi=>by have:=Lj i;rw[hi,Int.zero_ediv]at this;exact this.symm
 have Hv:Cg p (ps (AE a (ft F (q*p) r) (q*p) q)) U:=Cg.of λi=>by
  rw[dS];by_cases e:i<a.length
  ·rw[AE,Fg _ _ e,Lj i,kS]
  ·rw[dz _ (by simp[AE];omega),df,wN i];rw[dz a af,dz (ft F (q*p) r) af,J5,df]
 have Na:Cg p (ps (l6 p a r q F)) U:=by unfold l6;rw[BZ];exact(LG p _).trans Hv
 have hUd:Dl p (og (λi=>(l i).length-1) r) U:=λi hi=>wN i (by
  by_cases e:i<a.length
  ·have e2:i=a.length-1:=by omega
   have h3:=hPc.at i;have h4:=TW (p:=q*(p:Int)) (F:=λi=>ps (F i)) (d:=λi=>(l i).length-1) r λj hj=>⟨by
    have:=ke (q*(p:Int)) (F j);rw[hl j hj]at this;exact this.le af,by
    show(F j).getD ((l j).length-1) 0%_=_;rw[ht j hj]⟩
   rw[show og (λi=>(l i).length-1) r=i by omega]at h4;have h5:(ft F (q*p) r).getD i 0%(q*(p:Int))=1%(q*(p:Int)):=h3.trans h4;rw[e2]at h5⊢;rw[h.am.2,xJ,h5,←xJ,J5,df]
  ·rw[dz a af,dz (ft F (q*p) r) af,J5,df])
 have HM:Cg p (sS (λi=>ps (F i)) (λi=>ps (nL p a l r q F i)) r) U:=by
  refine(acy r hF).trans (Cg.trans ?_ Na);have hz:Cg p (sS (λi=>ps (l i)) (λi=>ps (nL p a l r q F i)) r-ps (l6 p a r q F)) 0:=by
   refine anv hp (F:=λi=>ps (l i)) (d:=λi=>(l i).length-1) (r:=r) (λi hi=>⟨(ke p (l i)).le af,?_⟩) (λi hi=>?_) h.wU (Dl.sub (acF r λi hi=>⟨(ke p (l i)).le af,(ke p _).le (IT i hi).2.2.2⟩) (hUd.cg Na.symm))
   ·show(l i).getD ((l i).length-1) 0%_=_;rw[(h.mn i hi).2]
   ·obtain⟨_,_,W,hW,hinv⟩:=h.H.inv hi;obtain⟨d1,_⟩:=k8 hp h.H.dj (nD cK (l6 p a r q F) (kO p (dN p l i r) (l i))).1 (h.H.c i hi) (h.H.ne hi);have c1:Cm p (ps (l i)) (ps (eC (l6 p a r q F) (kO p (dN p l i r) (l i)) p)) (ps (nL p a l r q F i)):=⟨_,aW.ps _ _,d1.trans (Cg.of_eq (PS.add_comm _ _))⟩;have c2:Cm p (ps (l i)) (ps (nL p a l r q F i)) (ps (l6 p a r q F)*ps (kO p (dN p l i r) (l i))):=c1.symm.trans (Cm.of (wS _ _ _));have c3:=acD (p:=(p:Int)) (F:=λi=>ps (l i)) (C:=λi=>ps (nL p a l r q F i)) (i:=i) r hi λq hq=>⟨aW.ps _ _,aW.ps _ _⟩
    have c4:Cm p (ps (l i)) (uA (λi=>ps (l i)) i r*ps (nL p a l r q F i)) (ps (dN p l i r)*(ps (l6 p a r q F)*ps (kO p (dN p l i r) (l i)))):=Cm.mul (aW.ps _ _) (aW.ps _ _) ((aW.ps _ _).mul (aW.ps _ _)) (h.yJ hi r (bF _)).symm c2;have c5:Cm p (ps (l i)) (ps (kO p (dN p l i r) (l i))*ps (dN p l i r)) 1:=⟨W,hW,hinv⟩;have c6:Cm p (ps (l i)) (ps (l6 p a r q F)*(ps (kO p (dN p l i r) (l i))*ps (dN p l i r))) (ps (l6 p a r q F)*1):=Cm.mul (aW.ps _ _) (aW.ps _ _) (aW.one _) (Cm.of (Cg.refl _ _)) c5;rw[PS.mul_one,show ps (l6 p a r q F)*(ps (kO p (dN p l i r) (l i))*ps (dN p l i r))=ps (dN p l i r)*(ps (l6 p a r q F)*ps (kO p (dN p l i r) (l i)))by ac_rfl]at c6;obtain⟨V,hV,e⟩:=(c3.trans c4).trans c6;refine⟨V,hV,(e.sub (Cg.refl _ _)).trans (Cg.of_eq ?_)⟩;rw[PS.add_comm,PS.add_sub_cancel]
  have:=hz.oI (ps (l6 p a r q F));rwa[PS.sub_add_cancel,PS.zero_add]at this
 have Ah:Cg (q*p) (fv (λi=>ps (ux (F i) (nL p a l r q F i) q)) r) (fv (λi=>ps (F i)+PS.K q*ps (nL p a l r q F i)) r):=Nj r λi hi=>Cg.of_eq (acH _ _ _ (by have:=(IT i hi).2.2.2;have:=hl i hi;omega))
 refine Cg.symm (Ah.trans ((acG AI r).trans ?_))
 rw[hU]
 exact(HM.up).Ry _
def vL.all:∀s,(∀i,i<r→Cg p (ps (cQ p a l r s i)) (ps (l i)))∧(∀i,i<r→(cQ p a l r s i).getD ((l i).length-1) 0=1)∧Cg ((p:Int)^(s+1)) (ps a) (fv (λi=>ps (cQ p a l r s i)) r)
 |0=>⟨λi _=>Cg.refl _ _,λi hi=>(h.mn i hi).2,by rw[Gg];exact h.ap⟩
 |s+1=>by
  obtain⟨h1,h3,h4⟩:=vL.all s;have cK:(0:Int)<(p:Int):=by have:=h.H.hp.1;omega
  have hq:(0:Int)<(p:Int)^(s+1):=sn cK;have AI:(p:Int)∣(p:Int)^(s+1):=⟨(p:Int)^s,by rw[fO,fc]⟩;have dc:=λi hi=>(h.H.st a s i hi).1
  have IT:=λi hi=>h.H.M3 (i:=i) hi a ((p:Int)^(s+1)) (cQ p a l r s)
  refine⟨λi hi=>?_,λi hi=>?_,?_⟩
  ·have h5:=dc i hi;have h6:=(IT i hi).2.2.2;show Cg p (ps (ux _ _ _)) _;rw[acH _ _ _ af];obtain⟨t,ht⟩:=AI;refine Cg.trans ⟨PS.K t*ps (nL p a l r ((p:Int)^(s+1)) (cQ p a l r s) i),?_⟩ (h1 i hi);rw[ht,PS.sY,PS.mul_assoc]
  ·have h5:=dc i hi;have h6:=(IT i hi).2.2.2;have h7:=h.H.l2 i hi;show(ux _ _ _).getD _ 0=1;rw[ux,yI _ _ _ _ _ af,aw af,h3 i hi,dz (nL p a l r ((p:Int)^(s+1)) (cQ p a l r s) i) af,eo,nl]
  ·rw[fO (p:Int) (s+1)];exact h.step hq AI dc h1 h3 h4
end
def anz{a b m:Int}(h:a%m=b%m):fj a m=fj b m:=by unfold fj;rw[h]
def TY{m:Int}(hm:0<m)(a:Int):fj a m%m=a%m:=by
 unfold fj;split
 ·rw[xJ,kS,Int.emod_self,Di,kS]
 ·exact kS _ _
def anA{m:Int}(hm:1<m):fj 1 m=1:=by unfold fj;rw[iU ak hm,aq af]
def anB(m:Int)(hm:0<m):fj 0 m=0:=by unfold fj;rw[df,aq af]
def CB(F:List Int){m:Int}(hm:0<m)(i:Nat):(F.map (fj · m)).getD i 0=fj (F.getD i 0) m:=getD_map (f:=(fj · m)) (anB m hm) F i
def TZ{F:List Int}{m:Int}(hm:1<m)(h:bQ F):bQ (F.map (fj · m)):=by refine⟨λe=>h.1 (List.map_eq_nil_iff.1 e),?_⟩;rw[dJ,CB F af,h.2];exact anA hm
def anC{a b m n:Int}(h:a%m=b%m)(hd:n∣m):a%n=b%n:=by obtain⟨t,rfl⟩:=hd;rw[←xA a (Wc n t),h,xA b (Wc n t)]
section
variable{p:Nat}{a:List Int}{l:Nat→List Int}{r:Nat}(h:vL p a l r)
include h
def vL.pw(s:Nat):(1:Int)<(p:Int)^(s+1):=by have h2:=h.H.hp.1;have h1:(0:Int)<(p:Int)^s:=sn af;rw[fO];have:=ju (show(2:Int)≤(p:Int)by omega) (A8 h1);omega
def vL.one(s:Nat){i:Nat}(hi:i<r):(cQ p a l r s i).length=(l i).length∧bQ (cQ p a l r s i):=by obtain⟨_,h2,_⟩:=h.all s;have hl:=(h.H.st a s i hi).1;refine⟨hl,λe=>?_,by rw[hl];exact h2 i hi⟩;have:=h.H.l2 i hi;rw[e]at hl;simp at hl;omega
def vL.image(s:Nat){i:Nat}(hi:i<r):a6 (md p ((cQ p a l r s i).map (fj · ((p:Int)^(s+1)))))=l i:=by
 obtain⟨h1,_,_⟩:=h.all s;have h2:=h.H.hp.1;have hq:=h.pw s;refine RJ (nC af (BY af _)) (h.H.c i hi) ?_;rw[BZ];refine(LG p _).trans (Cg.trans ?_ (h1 i hi));refine Cg.of λj=>?_
 rw[dS,dS,CB _ af];exact anC (TY af _) ⟨(p:Int)^s,by rw[fO,fc]⟩
end
end Go.El
namespace Go.El
open Fx
def acL{p:Nat}(H:bI p){G:PS}{d:Nat}(h:aW p G)(hd:G d=1)(hz:∀i,d<i→G i=0):sz (mk G h)=d+1:=by
 have h1:sz (mk G h)≤d+1:=yw H.pos h λi hi=>by rw[hz i af,df]
 obtain⟨a,ha,e⟩:=kC H.pos (mk G h);have h2:=(mk_eq.1 (e:mk (ps a) (aW.ps p a)=mk G h)).at d;rw[←e,de ha]at h1⊢;by_cases hl:a.length≤d
 ·rw[dS,dz a hl,hd,df,H.one]at h2;cases h2
 ·omega
def T0{p:Int}{A:PS}{n:Nat}(h:∀i,n≤i→A i=0):aW p A:=⟨n,λi hi=>by rw[h i hi,df]⟩
structure MD(d:Nat)(G:PS):Prop where
 one:G d=1
 z:∀i,d<i→G i=0
def MD.Nn{d:Nat}{G:PS}(h:MD d G)(p:Int):aW p G:=T0 (n:=d+1) λi hi=>h.z i af
def acM{p:Nat}(H:bI p){G G' K K':PS}{d e:Nat}(hG:MD d G)(T2:MD d G')(hK:MD e K)(T3:MD e K')(oL:Co (mk G (hG.Nn p)) (mk K (hK.Nn p)))(c1:Cg p G G')(c2:Cg p K K'):∀j,1≤j→Cg ((p:Int)^j) (G*K) (G'*K')→Cg ((p:Int)^j) G G'∧Cg ((p:Int)^j) K K'
 |0,h,_=>absurd h af
 |1,_,_=>by rw[fO,wm,iY];exact⟨c1,c2⟩
 |j+1+1,_,h=>by
  have hp:=H.hp.1;have u9:Cg ((p:Int)^(j+1)) (G*K) (G'*K'):=Cg.of λi=>by have h1:=xA ((G*K) i) (show((p:Int)^(j+1))∣(p:Int)^(j+1+1)from⟨p,fO _ _⟩);have h2:=xA ((G'*K') i) (show((p:Int)^(j+1))∣(p:Int)^(j+1+1)from⟨p,fO _ _⟩);rw[←h1,h.at,h2]
  obtain⟨i1,i2⟩:=acM H hG T2 hK T3 oL c1 c2 (j+1) af u9;obtain⟨q,eq⟩:∃q,q=(p:Int)^(j+1):=⟨_,ae⟩;have hq:q≠0:=by rw[eq];exact Int.ne_of_gt (sn af)
  rw[←eq]at i1 i2;rw[fO,←eq]at h⊢;obtain⟨U,eU⟩:=i1.symm;obtain⟨V,eV⟩:=i2.symm;have zU:∀i,d≤i→U i=0:=λi hi=>by
   have h1:G' i=G i+q*U i:=by rw[eU,PS.fJ,PS.gA]
   have h2:G' i=G i:=by
    by_cases e:i=d
    ·subst e;rw[hG.one,T2.one]
    ·rw[hG.z i af,T2.z i af]
   have h3:q*U i=0:=af;exact(Int.mul_eq_zero.1 h3).resolve_left hq
  have zV:∀i,e≤i→V i=0:=λi hi=>by
   have h1:K' i=K i+q*V i:=by rw[eV,PS.fJ,PS.gA]
   have h2:K' i=K i:=by
    by_cases e1:i=e
    ·subst e1;rw[hK.one,T3.one]
    ·rw[hK.z i af,T3.z i af]
   have h3:q*V i=0:=af;exact(Int.mul_eq_zero.1 h3).resolve_left hq
  have pU:aW p U:=T0 zU;have pV:aW p V:=T0 zV;have AI:(p:Int)∣q:=by rw[eq,fO];exact OS _ _
  have key:Cg p (G*V+U*K) 0:=Cg.YT λi=>by
   have h1:=h.symm.dvd i;have e1:G'*K'=G*K+PS.K q*(G*V+U*K)+PS.K q*(PS.K q*(U*V)):=by rw[eU,eV];simp only[PS.mul_add,PS.add_mul];ac_rfl
   rw[e1,PS.fJ,PS.fJ,PS.gA,PS.gA,PS.gA]at h1;obtain⟨w,hw⟩:=h1;have h2:q*((G*V+U*K) i+q*(U*V) i)=q*(p*w):=by rw[oX,←j5 q (p:Int) w,←hw];omega
   have h3:=Int.eq_of_mul_eq_mul_left hq h2;obtain⟨z,hz⟩:=AI;refine⟨w-z*(U*V) i,?_⟩;rw[PS.lR,Di,J8,←h3,hz,j5];omega
  have IU:=hG.Nn p;have hKp:=hK.Nn p;have e2:mk G IU*mk V pV+mk U pU*mk K hKp=0:=mk_eq.2 key;have d1:mk G IU∣mk U pU*mk K hKp:=wV (by rw[e2];exact dvd_zero _) (dvd_mul_right _ _);have sG:sz (mk G IU)=d+1:=acL H IU hG.one hG.z;have u0:mk U pU=0:=by
   refine vq H (oL.dvd (by rw[mul_comm];exact d1)) ?_;have:=yw H.pos pU (n:=d) λi hi=>by rw[zU i hi,df]
   omega
  rw[u0,zero_mul,add_zero]at e2;have T4:mk G IU≠0:=λe0=>by rw[e0,kQ H.pos]at sG;omega
  have v0:mk V pV=0:=gn λhv=>oJ H T4 hv e2
  have fin:∀{A A' W:PS}(hW:aW p W),A'=A+PS.K q*W→mk W hW=0→Cg (q*p) A A':=λ{A A' W} hW hA R5=>Cg.symm (Cg.YT λi=>by have h1:=(mk_eq.1 (R5:mk W hW=mk 0 (aW.zero p))).dvd i;rw[PS.lR,Di]at h1;obtain⟨t,ht⟩:=h1;refine⟨t,?_⟩;rw[hA,PS.fJ,PS.gA,ht,j5];omega)
  exact⟨fin pU eU u0,fin pV eV v0⟩
def bL(b:Nat→Bool):Nat→List (List Int)→List (List Int)
 |_,[]=>[]
 |i,f::l=>if b i then f::bL b (i+1) l else bL b (i+1) l
def jC(m:Int)(g:List Int):List (List Int)→List Int
 |[]=>g
 |f::l=>jC m (pH g f m) l
def ll:List (List Int)→PS
 |[]=>1
 |f::l=>ps f*ll l
def iS:List (List Int)→Nat
 |[]=>0
 |f::l=>(f.length-1)+iS l
def acO(b:Nat→Bool):∀(l r:List (List Int))(i:Nat),bL b i (l++r)=bL b i l++bL b (i+l.length) r
 |[],r,i=>rfl
 |f::l,r,i=>by rw[mQ,bL,bL,acO b l r (i+1),fk,show i+1+l.length=i+(l.length+1)by omega];split<;>rfl
def acP(m:Int):∀(l r:List (List Int))(g:List Int),jC m g (l++r)=jC m (jC m g l) r
 |[],_,_=>rfl
 |f::l,r,g=>acP m l r (pH g f m)
def xl{b:Nat→Bool}{x:List Int}:∀{l:List (List Int)}{i:Nat},x∈bL b i l→x∈l
 |[],_,h=>h
 |f::l,i,h=>by
  rw[bL]at h;split at h
  ·rcases dx.1 h with rfl|h
   ·simp
   ·simp[xl h]
  ·simp[xl h]
def IV{b:Nat→Bool}{R:List Int→List Int→Prop}:∀{l:List (List Int)}{i:Nat},l.Pairwise R→(bL b i l).Pairwise R
 |[],_,h=>h
 |f::l,i,h=>by
  obtain⟨h1,h2⟩:=jZ.1 h;rw[bL];split
  ·exact jZ.2 ⟨λy hy=>h1 y (xl hy),IV h2⟩
  ·exact IV h2
def T5(b:Nat→Bool):∀(l:List (List Int))(i:Nat),ll (bL b i l)*ll (bL (λi=> !b i) i l)=ll l
 |[],_=>PS.mul_one 1
 |f::l,i=>by
  have ih:=T5 b l (i+1);rw[bL,bL];cases b i
  ·simp only[Bool.not_false,cM,mN,cP,ll];rw[←ih];ac_rfl
  ·simp only[Bool.not_true,cM,mN,cP,ll];rw[←ih];ac_rfl
def No(m:Int):∀(l:List (List Int))(g:List Int),Cg m (ps (jC m g l)) (ps g*ll l)
 |[],g=>Cg.of_eq (PS.mul_one _).symm
 |f::l,g=>by refine(No m l (pH g f m)).trans (((Ty g f m).qF _).trans (Cg.of_eq ?_));rw[ll];ac_rfl
def anD{a b:List Int}{m:Int}(hm:1<m)(ha:bQ a)(hb:bQ b):bQ (pH a b m):=by
 have la:=cX.2 ha.1;have lb:=cX.2 hb.1;have hl:=Cw a b m;have hd:=Cg.trans (Ty a b m) (Cg.refl m _);have h1:=hd.at (a.length-1+(b.length-1));have h2:(ps a*ps b) (a.length-1+(b.length-1))=1:=by
  rw[PS.gN,AD (a:=a.length-1) af λi hi aN=>?_]
  ·rw[show a.length-1+(b.length-1)-(a.length-1)=b.length-1 by omega,dS,dS,ha.2,hb.2];rfl
  ·by_cases e:a.length≤i
   ·rw[dS,dz a e,kJ]
   ·rw[dS b,dz b af,eo]
 obtain⟨r1,r2⟩:=TD a b (by omega:0<m) (a.length-1+(b.length-1));rw[h2,dS,iU r1 r2,iU ak hm]at h1;refine⟨λe=>by rw[e]at hl;simp at hl;omega,?_⟩;rw[hl,show a.length+b.length-1-1=a.length-1+(b.length-1)by omega];exact h1
def AJ{m:Int}(hm:1<m):∀{l:List (List Int)}{g:List Int},bQ g→(∀f∈l,bQ f)→bQ (jC m g l)∧(jC m g l).length=g.length+iS l
 |[],g,hg,_=>⟨hg,ae⟩
 |f::l,g,hg,h=>by
  have hf:=h f be;have lf:=cX.2 hf.1;have lg:=cX.2 hg.1;obtain⟨h1,h2⟩:=AJ hm (l:=l) (anD hm hg hf) λx hx=>h x lC
  refine⟨h1,?_⟩;rw[jC,h2,Cw,iS];omega
def CC:bQ [1]:=⟨by simp,ae⟩
def bQ.Fl{a:List Int}(h:bQ a):MD (a.length-1) (ps a):=⟨h.2,λi hi=>dz a af⟩
def gS(m:Int)(l:List (List Int))(b:Nat→Bool):List Int:=(jC m [1] (bL b 0 l)).map (fj · m)
section
variable{p:Nat}
def iC:List (List Int)→Fx p
 |[]=>1
 |f::l=>fx f*iC l
def anE(l:List (List Int)):aW p (ll l):=by
 induction l with
 |nil=>exact aW.one p
 |cons f l ih=>exact(aW.ps p f).mul ih
def CE:∀l:List (List Int),(iC l:Fx p)=mk (ll l) (anE l)
 |[]=>rfl
 |f::l=>by rw[iC,CE l];rfl
def AK(l:List (List Int))(m:Int)(hm:(p:Int)∣m):(fx (jC m [1] l):Fx p)=iC l:=by rw[CE];refine mk_eq.2 ?_;have h:=No m l [1];rw[B0,PS.one_mul]at h;exact Cg.of λi=>by have h1:=h.at i;rw[←xA _ hm,h1,xA _ hm]
def vM(H:bI p){g:List Int}(h:bQ g):sz (fx g:Fx p)=g.length:=by have:=cX.2 h.1;have h1:=acL H (aW.ps p g) h.Fl.one h.Fl.z;rw[show g.length-1+1=g.length by omega]at h1;exact h1
def acQ(H:bI p){g G:List Int}(hg:bQ g)(hG:bQ G){w:Fx p}(hw:sz w=1)(h:fx g=w*fx G):(fx g:Fx p)=fx G:=by
 have s1:=vM H hg;have s2:=vM H hG;have lg:=cX.2 hg.1;have wne:w≠0:=λe=>by rw[e,kQ H.pos]at hw;omega
 have T4:(fx G:Fx p)≠0:=λe=>by rw[e,kQ H.pos]at s2;have:=cX.2 hG.1;omega
 have s3:=eK H wne T4;rw[←h]at s3;obtain⟨c,hc,rfl⟩:=EA H hw;have h1:ps g (g.length-1)%(p:Int)=(PS.K c*ps G) (g.length-1)%(p:Int):=(mk_eq.1 (h:mk (ps g) (aW.ps p g)=mk (PS.K c*ps G) ((aW.K p c).mul (aW.ps p G)))).at (g.length-1);rw[PS.gA,dS,dS,hg.2,show g.length-1=G.length-1 by omega,hG.2,nm]at h1;rw[h,(uf h1.symm:(K c:Fx p)=K 1),mD,one_mul]
def T6(H:bI p){Z:Fx p}:∀{l:List (List Int)},l.Pairwise (λx y=>Co (fx x:Fx p) (fx y))→(∀f∈l,(fx f:Fx p)∣Z)→(iC l:Fx p)∣Z
 |[],_,_=>⟨Z,(mul_one Z).symm⟩
 |f::l,hp,h=>by
  obtain⟨h1,h2⟩:=jZ.1 hp;refine Co.LU ?_ (h f be) (T6 H h2 λx hx=>h x lC);have key:∀{l:List (List Int)},(∀y∈l,Co (fx f:Fx p) (fx y))→Co (fx f:Fx p) (iC l):=by
   intro l;induction l with
   |nil=>intro _;exact⟨0,1,by rw[zero_mul,zero_add];exact one_mul 1⟩
   |cons y l ih=>intro h;exact(h y be).mul (ih λz hz=>h z (by simp[hz]))
  exact key h1
def IW{b:Nat→Bool}{x:List Int}:∀{l:List (List Int)}{i:Nat},x∈bL b i l→∃j,j<l.length∧b (i+j)=true∧l.getD j []=x
 |[],_,h=>by cases h
 |f::l,i,h=>by
  rw[bL]at h;split at h
  ·rename_i hb;rcases dx.1 h with rfl|h
   ·exact⟨0,by simp,hb,ae⟩
   ·obtain⟨j,h1,h2,h3⟩:=IW h;exact⟨j+1,by simp;omega,by rw[show i+(j+1)=i+1+j by omega];exact h2,h3⟩
  ·obtain⟨j,h1,h2,h3⟩:=IW h;exact⟨j+1,by simp;omega,by rw[show i+(j+1)=i+1+j by omega];exact h2,h3⟩
def T7{b:Nat→Bool}:∀{l:List (List Int)}{i j:Nat},j<l.length→b (i+j)=true→l.getD j []∈bL b i l
 |[],_,_,h,_=>by simp at h
 |f::l,i,0,_,h=>by rw[bL,aw cd];simp
 |f::l,i,j+1,h,hb=>by
  have:=T7 (l:=l) (i:=i+1) (j:=j) (by simp at h;omega) (by rw[show i+1+j=i+(j+1)by omega];exact hb);rw[bL];split
  ·exact v8 _ this
  ·exact this
end
def anG{x m:Int}(h:2*(x.natAbs:Int)<m):fj x m=x:=by
 unfold fj;by_cases hx:0≤x
 ·rw[iU hx af,aq af]
 ·have e:x%m=x+m:=by rw[←Int.add_emod_right,iU af af]
  rw[e,aw af];omega
end Go.El
namespace Go.El
namespace Rx
def acR{F A B:Rx}(hF:Mo F)(e:F=A*B)(hA:sz A≠1)(hB:sz B≠1):∃u v,Mo u∧Mo v∧F=u*v∧2≤sz u∧2≤sz v:=by
 have a0:A≠0:=λe0=>hF.ne (by rw[e,e0,zero_mul])
 have b0:B≠0:=λe0=>hF.ne (by rw[e,e0,mul_zero])
 obtain⟨c,hc,hm⟩:=Tm a0;have e2:F=(K c⁻¹ *B)*(K c*A):=by have e3:K c⁻¹ *B*(K c*A)=(K c⁻¹ *K c)*(A*B):=kI;rw[e3,pC hc,one_mul,←e]
 have hv:Mo (K c⁻¹ *B):=by rw[e2]at hF;exact hF.Cr hm
 have pa:=eN a0;have pb:=eN b0;have s1:=eK (ug hc) a0;have qO:c⁻¹ ≠0:=λe=>by have:=ou _ hc;rw[e,wo]at this;exact absurd this ak
 have s2:=eK (ug qO) b0;rw[uh hc]at s1;rw[uh qO]at s2;exact⟨K c*A,K c⁻¹ *B,hm,hv,by rw[e2,mul_comm],by omega,by omega⟩
def T8{u v:Rx}(hu:Mo u)(hv:Mo v)(h:eD (u*v)):eD u∧eD v:=by
 obtain⟨a,ha⟩:=IH u;obtain⟨b,hb⟩:=IH v;have one:∀A:Rx,K ((1:Nat):Rat)*A=A:=λA=>one_mul A
 have hc:Dn (u*v) 1:=⟨by decide,by rw[one];exact h,λd _=>Nat.one_dvd d⟩;have e:=abL hu hv ha hb hc;have a1:a=1:=Nat.dvd_one.1 ⟨b,e⟩;have b1:b=1:=Nat.dvd_one.1 ⟨a,by rw[g9];exact e⟩;subst a1 b1;have i1:=ha.int;have i2:=hb.int;rw[one]at i1 i2;exact⟨i1,i2⟩
def rY:List (List Int)→Rx
 |[]=>1
 |f::l=>zx f*rY l
end Rx
open Fx
def cy(b:Nat→Bool):Nat→Nat
 |0=>0
 |n+1=>cy b n+(if b n then 1 else 0)
def Np{b c:Nat→Bool}:∀{n:Nat},(∀i,i<n→b i=c i)→cy b n=cy c n
 |0,_=>rfl
 |n+1,h=>by rw[cy,cy,Np (λi hi=>h i af),h n af]
def acS{b c:Nat→Bool}:∀{n:Nat},(∀i,i<n→b i=true→c i=true)→cy b n≤cy c n
 |0,_=>bF _
 |n+1,h=>by
  have ih:=acS (n:=n) λi hi=>h i af
  have h1:=h n af;rw[cy,cy];cases hb:b n
  ·simp only[mN,cP];omega
  ·rw[h1 hb];simp only[cM];omega
def T9{b c:Nat→Bool}:∀{n:Nat},(∀i,i<n→b i=true→c i=true)→(∃i,i<n∧b i=false∧c i=true)→cy b n<cy c n
 |0,_,⟨i,h,_⟩=>absurd h af
 |n+1,h,⟨i,h1,h2,h3⟩=>by
  rw[cy,cy];by_cases e:i=n
  ·subst e;have:=acS (n:=i) λj hj=>h j af
   rw[h2,h3];simp;omega
  ·have ih:=T9 (n:=n) (λj hj=>h j af) ⟨i,by omega,h2,h3⟩;have h4:=h n af;cases hb:b n
   ·simp only[mN,cP];omega
   ·rw[h4 hb];simp only[cM];omega
def Ua(b:Nat→Bool):∀n,cy b n+cy (λi=> !b i) n=n
 |0=>rfl
 |n+1=>by have:=Ua b n;rw[cy,cy];cases b n<;>simp<;>omega
def acT{b:Nat→Bool}:∀{n:Nat},0<cy b n→∃i,i<n∧b i=true
 |0,h=>absurd h (by simp[cy])
 |n+1,h=>by
  cases hb:b n
  ·rw[cy,hb]at h;obtain⟨i,h1,h2⟩:=acT (n:=n) cd;exact⟨i,by omega,h2⟩
  ·exact⟨n,by omega,hb⟩
def Ub{b:Nat→Bool}{n i:Nat}(hi:i<n)(h:b i=true):0<cy b n:=by have:=T9 (b:=λ_=>false) (c:=b) (n:=n) (λj _ hj=>by cases hj) ⟨i,hi,ae,h⟩;omega
def qR(b:Nat→Bool):Nat→Nat
 |0=>0
 |n+1=>(if b n then 2^n else 0)+qR b n
def Nq(b:Nat→Bool):∀n,qR b n<2^n
 |0=>Nat.one_pos
 |n+1=>by have:=Nq b n;rw[qR,iX];split<;>omega
def Uc(b:Nat→Bool):∀{n i:Nat},i<n→(qR b n).testBit i=b i
 |0,_,h=>absurd h af
 |n+1,i,h=>by
  rw[qR];by_cases e:i=n
  ·subst e;have h1:=Nat.testBit_lt_two_pow (Nq b i);cases hb:b i
   ·simp only[mN,cP,eR];exact h1
   ·simp only[cM];rw[Nat.testBit_two_pow_add_eq,h1];rfl
  ·have ih:=Uc b (n:=n) (i:=i) af;cases hb:b n
   ·simp only[mN,cP,eR];exact ih
   ·simp only[cM];rw[Nat.testBit_two_pow_add_gt af];exact ih
def vO(n s:Nat):List Nat:=(List.range (2^n)).filter λS=>cy S.testBit n==s
def iD(n:Nat):List Nat:=(List.range (n/2)).flatMap λs=>vO n (s+1)
def yM{n T:Nat}:T∈iD n↔T<2^n∧1≤cy T.testBit n∧cy T.testBit n≤n/2:=by
 unfold iD vO;simp only[jE,kR,xC,beq_iff_eq];constructor
 ·rintro⟨s,h1,h2,h3⟩;omega
 ·rintro⟨h1,h2,h3⟩;exact⟨cy T.testBit n-1,by omega,h1,by omega⟩
def anH(n:Nat):(iD n).Pairwise (λx y=>cy x.testBit n≤cy y.testBit n):=by
 have key:∀k,((List.range k).flatMap λs=>vO n (s+1)).Pairwise (λx y=>cy x.testBit n≤cy y.testBit n):=by
  intro k;induction k with
  |zero=>exact .nil
  |succ k ih=>
   rw[pW,za]
   refine AZ.2 ⟨ih,?_,λx hx y hy=>?_⟩
   ·simp only[gJ,OT,kp];refine VU ?_ (List.pairwise_of_forall (R:=λ_ _=>True) (λ_ _=>trivial):(vO n (k+1)).Pairwise λ_ _=>True);intro x y hx hy _;simp only[vO,xC,beq_iff_eq]at hx hy;omega
   ·simp only[jE,kR,gJ,OT,kp,vO,xC,beq_iff_eq]at hx hy;obtain⟨s,h1,h2,h3⟩:=hx;omega
 exact key _
structure g7(p:Nat)(m:Int)(a:List Int)(l:List (List Int)):Prop where
 H:bI p
 pm:∃e,1≤e∧m=(p:Int)^e
 am:bQ a
 lm:∀f∈l,bQ f
 gZ:∀f∈l,cp (fx f:Fx p)
 pair:l.Pairwise (λx y=>Co (fx x:Fx p) (fx y))
 pr:Cg m (ps a) (ll l)
 vv:k9 (fx a:Fx p)
 len:a.length=1+iS l
 bd:∀g,bQ g→Rx.zx g∣Rx.zx a→∀i,2*((g.getD i 0).natAbs:Int)<m
section
variable{p:Nat}{m:Int}{a:List Int}{l:List (List Int)}
def g7.m1(h:g7 p m a l):1<m∧(p:Int)∣m:=by obtain⟨e,h1,rfl⟩:=h.pm;have hp:=h.H.hp.1;obtain⟨e,rfl⟩:∃e',e=e'+1:=⟨e-1,by omega⟩;have h2:(0:Int)<(p:Int)^e:=sn af;rw[fO];refine⟨?_,OS _ _⟩;have h3:=jD (show(1:Int)≤(p:Int)^e by omega) (show(0:Int)≤p by omega);omega
def g7.co(h:g7 p m a l){i j:Nat}(hi:i<l.length)(hj:j<l.length)(aN:i≠j):Co (fx (l.getD i []):Fx p) (fx (l.getD j [])):=by
 have hp:=OG.1 h.pair;rw[aY,aY,ct hi,ct hj];rcases V7 aN with e|e
 ·exact hp i j hi hj e
 ·exact(hp j i hj hi e).symm
def g7.IX(h:g7 p m a l){i:Nat}(hi:i<l.length):l.getD i []∈l:=by rw[aY,ct hi];exact mO hi
def acU{Q:Fx p}(H:bI p)(hQ:cp Q):∀{l:List (List Int)},Q∣iC l→∃f∈l,Q∣fx f
 |[],h=>absurd h (hQ.xb H)
 |f::l,h=>by
  rcases hQ.rO H h with e|e
  ·exact⟨f,by simp,e⟩
  ·obtain⟨x,h1,h2⟩:=acU H hQ e;exact⟨x,by simp[h1],h2⟩
def g7.anI(h:g7 p m a l)(b:Nat→Bool):(fx (gS m l b):Fx p)=iC (bL b 0 l):=by obtain⟨h1,h2⟩:=h.m1;rw[←AK (bL b 0 l) m h2];refine ajZ (Cg.of λi=>?_);rw[dS,dS,gS,CB _ af,←xA _ h2,TY af,xA _ h2]
def g7.Fm(h:g7 p m a l)(b:Nat→Bool):bQ (gS m l b)∧(gS m l b).length=1+iS (bL b 0 l):=by obtain⟨h1,h2⟩:=h.m1;obtain⟨h3,h4⟩:=AJ h1 CC (λf hf=>h.lm f (xl hf):∀f∈bL b 0 l,bQ f);refine⟨TZ h1 h3,?_⟩;rw[gS,dJ,h4];rfl
def g7.acV(h:g7 p m a l)(b:Nat→Bool){j:Nat}(hj:j<l.length):(fx (l.getD j []):Fx p)∣fx (gS m l b)↔b j=true:=by
 rw[h.anI];constructor
 ·intro hd;obtain⟨f,hf,h1⟩:=acU h.H (h.gZ _ (h.IX hj)) hd;obtain⟨i,h2,h3,h4⟩:=IW hf;rw[eR]at h3;by_cases e:j=i
  ·rw[e];exact h3
  ·have h5:=h.co hj h2 e;rw[h4]at h5;have:=h5.unit h.H h1;have:=(h.gZ _ (h.IX hj)).1;omega
 ·intro hb;have:=T7 (b:=b) (l:=l) (i:=0) (j:=j) hj (by rw[eR];exact hb);have key:∀{l:List (List Int)}{f:List Int},f∈l→(fx f:Fx p)∣iC l:=by
   intro l;induction l with
   |nil=>intro f hf;cases hf
   |cons y l ih=>
    intro f hf
    rcases dx.1 hf with rfl|hf
    ·exact dvd_mul_right _ _
    ·exact fg (ih hf) _
  exact key this
def CF{b c:Nat→Bool}:∀{l:List (List Int)}{i:Nat},(∀j,j<l.length→b (i+j)=c (i+j))→bL b i l=bL c i l
 |[],_,_=>rfl
 |f::l,i,h=>by
  have ih:=CF (b:=b) (c:=c) (l:=l) (i:=i+1) λj hj=>by have:=h (j+1) cO;rwa[show i+(j+1)=i+1+j by omega]at this
  rw[bL,bL,ih];have:=h 0 be;rw[j6]at this;rw[this]
def Ud{x y z:List Int}(h:ps x*ps y=ps z):(fx z:Fx p)=fx x*fx y:=(mk_congr h ((aW.ps p x).mul (aW.ps p y)) (aW.ps p z)).symm
def g7.mask(h:g7 p m a l){g k:List Int}(hg:bQ g)(hk:bQ k)(e:Rx.zx a=Rx.zx g*Rx.zx k):
  ∃b:Nat→Bool,g=gS m l b∧k=gS m l (λi=> !b i)∧(∀j,j<l.length→(b j=true↔(fx (l.getD j []):Fx p)∣fx g))∧Cg m (ps g) (ll (bL b 0 l))∧Cg m (ps k) (ll (bL (λi=> !b i) 0 l)):=by
 obtain⟨qi,jI⟩:=h.m1
 have H:=h.H
 have jk:(1:Int)<p:=xw
 have eps:=Rx.Ng e.symm
 have Fo:(fx a:Fx p)=fx g*fx k:=Ud eps
 classical
 let b:Nat→Bool:=λj=>decide ((fx (l.getD j []):Fx p)∣fx g)
 have hb:∀j,b j=true↔(fx (l.getD j []):Fx p)∣fx g:=λj=>decide_eq_true_iff
 have Nr:∀c:Nat→Bool,∀f∈bL c 0 l,bQ f:=λc f hf=>h.lm f (xl hf)
 have d1:(iC (bL b 0 l):Fx p)∣fx g:=T6 H (IV h.pair) λf hf=>by obtain⟨j,_,h2,h3⟩:=IW hf;rw[eR]at h2;rw[←h3];exact(hb j).1 h2
 have eA:(fx a:Fx p)=iC l:=by rw[CE];refine mk_eq.2 (Cg.of λi=>?_);have:=h.pr.at i;rw[←xA _ jI,this,xA _ jI]
 have lone:∀{l:List (List Int)}{f:List Int},f∈l→(fx f:Fx p)∣iC l:=by
  intro l;induction l with
  |nil=>intro f hf;cases hf
  |cons y l ih=>
   intro f hf
   rcases dx.1 hf with rfl|hf
   ·exact dvd_mul_right _ _
   ·exact fg (ih hf) _
 have d2:(iC (bL (λi=> !b i) 0 l):Fx p)∣fx k:=T6 H (IV h.pair) λf hf=>by
  obtain⟨j,h1,h2,h3⟩:=IW hf;rw[eR]at h2;have hjm:=h.IX h1;rw[←h3];have hd:(fx (l.getD j []):Fx p)∣fx g*fx k:=by rw[←Fo,eA];exact lone hjm
  rcases(h.gZ _ hjm).rO H hd with e1|e1
  ·rw[(hb j).2 e1]at h2;cases h2
  ·exact e1
 have e2:(iC (bL b 0 l)*iC (bL (λi=> !b i) 0 l):Fx p)=iC l:=by rw[CE,CE,CE,Zf];exact mk_congr (T5 b l 0) _ _
 obtain⟨w,hw⟩:=d1
 obtain⟨w',Ue⟩:=d2
 have Ns:(fx a:Fx p)≠0:=λe0=>by have h1:=vM H h.am;rw[e0,kQ H.pos]at h1;have:=cX.2 h.am.1;omega
 have ww:w*w'=1:=by refine Am H (A:=(iC l:Fx p)) (by rw[←eA];exact Ns) ?_;rw[one_mul,←e2];have e3:w*w'*(iC (bL b 0 l)*iC (bL (λi=> !b i) 0 l))=w*iC (bL b 0 l)*(w'*iC (bL (λi=> !b i) 0 l)):=kI;rw[e3,←hw,←Ue,←Fo,eA,e2]
 have sw:sz w=1:=B6 H (by rw[mul_comm];exact ww:w'*w=1)
 have sw':sz w'=1:=B6 H ww
 obtain⟨tm1,tl1⟩:=AJ jk CC (Nr b)
 obtain⟨tm2,tl2⟩:=AJ jk CC (Nr λi=> !b i)
 have eg:(fx g:Fx p)=iC (bL b 0 l):=by have hp:=AK (p:=p) (bL b 0 l) p (J7 _);rw[←hp]at hw⊢;exact acQ H hg tm1 sw hw
 have ek:(fx k:Fx p)=iC (bL (λi=> !b i) 0 l):=by have hp:=AK (p:=p) (bL (λi=> !b i) 0 l) p (J7 _);rw[←hp]at Ue⊢;exact acQ H hk tm2 sw' Ue
 have lg:g.length=1+iS (bL b 0 l):=by have h1:=vM H hg;rw[eg,←AK (p:=p) (bL b 0 l) p (J7 _),vM H tm1,tl1]at h1;rw[←h1];rfl
 have lk:k.length=1+iS (bL (λi=> !b i) 0 l):=by have h1:=vM H hk;rw[ek,←AK (p:=p) (bL (λi=> !b i) 0 l) p (J7 _),vM H tm2,tl2]at h1;rw[←h1];rfl
 obtain⟨um1,ul1⟩:=AJ qi CC (Nr b)
 obtain⟨um2,ul2⟩:=AJ qi CC (Nr λi=> !b i)
 have c1:Cg p (ps g) (ps (jC m [1] (bL b 0 l))):=mk_eq.1 (eg.trans (AK (bL b 0 l) m jI).symm:Fx.mk (ps g) (aW.ps p g)=Fx.mk (ps (jC m [1] (bL b 0 l))) (aW.ps p _))
 have c2:Cg p (ps k) (ps (jC m [1] (bL (λi=> !b i) 0 l))):=mk_eq.1 (ek.trans (AK (bL (λi=> !b i) 0 l) m jI).symm:Fx.mk (ps k) (aW.ps p k)=Fx.mk (ps (jC m [1] (bL (λi=> !b i) 0 l))) (aW.ps p _))
 have oL:Co (fx g:Fx p) (fx k):=Ap H (λe0=>Ns (by rw[Fo,e0,zero_mul])) λQ hQ q1 q2=>h.vv Q hQ (by rw[Fo];exact Aq q1 q2)
 have anO:MD (g.length-1) (ps (jC m [1] (bL b 0 l))):=by have:=um1.Fl;rwa[ul1,show([1]:List Int).length=1 from ae,←lg]at this
 have anP:MD (k.length-1) (ps (jC m [1] (bL (λi=> !b i) 0 l))):=by have:=um2.Fl;rwa[ul2,show([1]:List Int).length=1 from ae,←lk]at this
 obtain⟨e0,PM,Nt⟩:=h.pm
 have t1:=No m (bL b 0 l) [1]
 have t2:=No m (bL (λi=> !b i) 0 l) [1]
 rw[B0,PS.one_mul]at t1 t2
 have LM:Cg m (ps g*ps k) (ps (jC m [1] (bL b 0 l))*ps (jC m [1] (bL (λi=> !b i) 0 l))):=by rw[eps];refine h.pr.trans ?_;rw[←T5 b l 0];exact(t1.mul t2).symm
 have hh:=acM H hg.Fl anO hk.Fl anP oL c1 c2 e0 PM (Nt▸LM)
 rw[←Nt]at hh
 have fin:∀{g:List Int}{t:List Int},bQ g→Rx.zx g∣Rx.zx a→g.length=t.length→Cg m (ps g) (ps t)→g=t.map (fj · m):=by
  intro g t hg hd hl hc;refine xk (by rw[dJ,hl]) λj _=>?_
  rw[CB _ af,←anz (a:=g.getD j 0) (b:=t.getD j 0) (hc.at j)];exact(anG (h.bd g hg hd j)).symm
 refine⟨b,fin hg (by rw[e];exact Rx.dvd_mul_right _ _) (by rw[ul1,lg];rfl) hh.1,fin hk (by rw[e];exact Rx.dvd_mul_left _ _) (by rw[ul2,lk];rfl) hh.2,λj _=>hb j,hh.1.trans t1,hh.2.trans t2⟩
def g7.ac2(h:g7 p m a l){b:Nat→Bool}(hb:0<cy b l.length):1≤iS (bL b 0 l):=by
 obtain⟨j,h1,h2⟩:=acT hb;have h3:=T7 (b:=b) (l:=l) (i:=0) h1 (by rw[eR];exact h2);have h4:=(h.gZ _ (h.IX h1)).1;rw[vM h.H (h.lm _ (h.IX h1))]at h4;have key:∀{L:List (List Int)},l.getD j []∈L→1≤iS L:=by
  intro L;induction L with
  |nil=>intro hx;cases hx
  |cons y L ih=>
   intro hx
   rw[iS]
   rcases dx.1 hx with e|e
   ·rw[←e];omega
   ·have:=ih e;omega
 exact key h3
def g7.wR(h:g7 p m a l){u v:Rx}(hu:Rx.Mo u)(hv:Rx.Mo v)(e:Rx.zx a=u*v):∃g k,bQ g∧bQ k∧Rx.zx g=u∧Rx.zx k=v:=by obtain⟨i1,i2⟩:=Rx.T8 hu hv (e▸Rx.CA a);obtain⟨g,g1,g2⟩:=Rx.Nd i1;obtain⟨k,k1,k2⟩:=Rx.Nd i2;exact⟨g,k,Rx.Nf g1 (g2▸hu),Rx.Nf k1 (k2▸hv),g2,k2⟩
def g7.first(h:g7 p m a l){S:Nat}(hS:S∈iD l.length)(hd:Rx.zx (gS m l S.testBit)∣Rx.zx a)(hf:∀T∈iD l.length,cy T.testBit l.length<cy S.testBit l.length→¬Rx.zx (gS m l T.testBit)∣Rx.zx a):Rx.cp (Rx.zx (gS m l S.testBit)):=by
 obtain⟨_,hS1,hS2⟩:=yM.1 hS;obtain⟨gm,gl⟩:=h.Fm S.testBit;have IJ:=h.ac2 (b:=S.testBit) af;refine⟨by rw[Rx.mL gm.can];omega,λA B e=>gn λhn=>?_⟩;obtain⟨u,v,hu,hv,e2,su,sv⟩:=Rx.acR (Rx.oe gm) e (λh=>hn (.inl h)) (λh=>hn (.inr h));obtain⟨k,hk⟩:=hd;have CG:Rx.Mo k:=by have:=Rx.oe h.am;rw[hk]at this;exact this.Cr (Rx.oe gm)
 have ea:Rx.zx a=u*(k*v):=by rw[hk,e2];ac_rfl
 obtain⟨g',k',g1,k1,g2,k2⟩:=h.wR hu (CG.mul hv) ea;obtain⟨b,b1,b2,b3,_⟩:=h.mask g1 k1 (by rw[g2,k2];exact ea);have hgv:∃v',bQ v'∧Rx.zx v'=v:=by obtain⟨_,i2⟩:=Rx.T8 hu hv (e2▸Rx.CA _);obtain⟨v',v1,v2⟩:=Rx.Nd i2;exact⟨v',Rx.Nf v1 (v2▸hv),v2⟩
 obtain⟨v',_,v2⟩:=hgv;have Fo:(fx (gS m l S.testBit):Fx p)=fx g'*fx v':=Ud (Rx.Ng (by rw[g2,v2];exact e2.symm));have sub:∀i,i<l.length→b i=true→S.testBit i=true:=λi hi hb=>(h.acV S.testBit hi).1 (by rw[Fo];exact qH ((b3 i hi).1 hb) _)
 have Uf:g'.length=1+iS (bL b 0 l):=by rw[b1];exact(h.Fm b).2
 have sg':Rx.sz u=g'.length:=by rw[←g2,Rx.mL g1.can]
 have bh:g'.length<(gS m l S.testBit).length:=by have:=Rx.eK hu.ne hv.ne;rw[←e2,Rx.mL gm.can]at this;omega
 have hex:∃i,i<l.length∧b i=false∧S.testBit i=true:=gn λaN=>by
  have:bL b 0 l=bL S.testBit 0 l:=CF λj hj=>by
   rw[eR];cases hb:b j
   ·cases hs:S.testBit j
    ·rfl
    ·exact absurd ⟨j,hj,hb,hs⟩ aN
   ·exact(sub j hj hb).symm
  rw[Uf,this]at bh;omega
 have ru:=T9 sub hex;have Bj:0<cy b l.length:=by
  rcases wb (cy b l.length)with e0|e0
  ·have:bL b 0 l=bL (λ_=>false) 0 l:=CF λj hj=>by
    rw[eR];cases hb:b j
    ·rfl
    ·have:=Ub hj hb;omega
   have z:∀(L:List (List Int))(i:Nat),bL (λ_=>false) i L=[]:=by
    intro L;induction L with
    |nil=>intro i;rfl
    |cons y L ih=>intro i;rw[bL,aq ak,ih]
   rw[this,z]at Uf;have:g'.length=1:=Uf;omega
  ·exact e0
 have uW:∀i,i<l.length→(qR b l.length).testBit i=b i:=λi hi=>Uc b hi
 have uX:cy (qR b l.length).testBit l.length=cy b l.length:=Np uW;have Nu:gS m l (qR b l.length).testBit=g':=by rw[b1,gS,gS,CF (b:=(qR b l.length).testBit) (c:=b) λj hj=>by rw[eR];exact uW j hj]
 refine hf (qR b l.length) (yM.2 ⟨Nq b _,by omega,by omega⟩) af ?_;rw[Nu,g2,ea];exact Rx.dvd_mul_right _ _
def g7.none(h:g7 p m a l)(hl:l≠[])(hf:∀T∈iD l.length,¬Rx.zx (gS m l T.testBit)∣Rx.zx a):Rx.cp (Rx.zx a):=by
 have Bm:=cX.2 hl;have ns:=h.ac2 (b:=λ_=>true) (Ub (i:=0) Bm ae);have tr:∀(L:List (List Int))(i:Nat),bL (λ_=>true) i L=L:=by
  intro L;induction L with
  |nil=>intro i;rfl
  |cons y L ih=>intro i;rw[bL,aw ae,ih]
 rw[tr]at ns;have hlen:=h.len;refine⟨by rw[Rx.mL h.am.can];omega,λA B e=>gn λhn=>?_⟩;obtain⟨u,v,hu,hv,e2,su,sv⟩:=Rx.acR (Rx.oe h.am) e (λh=>hn (.inl h)) (λh=>hn (.inr h));obtain⟨g,k,g1,k1,g2,k2⟩:=h.wR hu hv e2;obtain⟨b,b1,b2,b3,_⟩:=h.mask g1 k1 (by rw[g2,k2];exact e2);have pos:∀{c:Nat→Bool}{x:List Int},x=gS m l c→2≤x.length→0<cy c l.length:=by
  intro c x hx h2;rcases wb (cy c l.length)with e0|e0
  ·have e1:bL c 0 l=bL (λ_=>false) 0 l:=CF λj hj=>by
    rw[eR];cases hb:c j
    ·rfl
    ·have:=Ub hj hb;omega
   have z:∀(L:List (List Int))(i:Nat),bL (λ_=>false) i L=[]:=by
    intro L;induction L with
    |nil=>intro i;rfl
    |cons y L ih=>intro i;rw[bL,aq ak,ih]
   have h3:=(h.Fm c).2;rw[←hx,e1,z]at h3;have:x.length=1:=h3;omega
  ·exact e0
 have p1:=pos b1 (by rw[←g2,Rx.mL g1.can]at su;exact su);have p2:=pos b2 (by rw[←k2,Rx.mL k1.can]at sv;exact sv);have anT:=Ua b l.length;have go:∀(c:Nat→Bool)(x:List Int),x=gS m l c→0<cy c l.length→cy c l.length≤l.length/2→Rx.zx x∣Rx.zx a→False:=by
  intro c x hx hp hle hd;have uW:∀i,i<l.length→(qR c l.length).testBit i=c i:=λi hi=>Uc c hi
  have uX:cy (qR c l.length).testBit l.length=cy c l.length:=Np uW;refine hf (qR c l.length) (yM.2 ⟨Nq c _,by omega,by omega⟩) ?_;rw[show gS m l (qR c l.length).testBit=x by rw[hx,gS,gS,CF (b:=(qR c l.length).testBit) (c:=c) λj hj=>by rw[eR];exact uW j hj]];exact hd
 by_cases hh:cy b l.length≤l.length/2
 ·exact go b g b1 p1 hh (by rw[g2,e2];exact Rx.dvd_mul_right _ _)
 ·exact go _ k b2 p2 af (by rw[k2,e2];exact Rx.dvd_mul_left _ _)
end
end Go.El
namespace Go.El
open Fx
open Classical in
noncomputable def qT(a g:List Int):List Int:=if h:∃q,bQ q∧Rx.zx a=Rx.zx g*Rx.zx q then Classical.choose h else[]
open Classical in
noncomputable def vP(m:Int)(a:List Int)(l:List (List Int)):Option Nat:=(iD l.length).find? λS=>decide (Rx.zx (gS m l S.testBit)∣Rx.zx a)
noncomputable def tj(m:Int):Nat→List Int→List (List Int)→List (List Int)
 |0,a,_=>[a]
 |k+1,a,l=>match vP m a l with
  |some S=>gS m l S.testBit::tj m k (qT a (gS m l S.testBit)) (bL (λi=> !S.testBit i) 0 l)
  |none=>[a]
open Classical in
def ac3{m:Int}{a:List Int}{l:List (List Int)}{S:Nat}(h:vP m a l=some S):∃us ws,iD l.length=us++S::ws∧Rx.zx (gS m l S.testBit)∣Rx.zx a∧∀T∈us,¬Rx.zx (gS m l T.testBit)∣Rx.zx a:=by unfold vP at h;obtain⟨h1,us,ws,h2,h3⟩:=List.find?_eq_some_iff_append.1 h;refine⟨us,ws,h2,bc h1,λT hT hd=>?_⟩;have:=h3 T hT;rw[JW]at this;exact bC this hd
open Classical in
def anU{m:Int}{a:List Int}{l:List (List Int)}(h:vP m a l=none):∀T∈iD l.length,¬Rx.zx (gS m l T.testBit)∣Rx.zx a:=by unfold vP at h;intro T hT hd;exact JU.1 h T hT (ov hd)
section
variable{p:Nat}{m:Int}{a:List Int}{l:List (List Int)}
def g7.anV(h:g7 p m a l){S:Nat}(hf:vP m a l=some S):Rx.cp (Rx.zx (gS m l S.testBit)):=by
 obtain⟨us,ws,h1,h2,h3⟩:=ac3 hf;have hS:S∈iD l.length:=by rw[h1];simp
 refine h.first hS h2 λT hT bh=>?_
 have hp:=anH l.length;rw[h1]at hT hp;rcases bX.1 hT with e|e
 ·exact h3 T e
 ·exfalso;rcases dx.1 e with e|e
  ·subst e;omega
  ·have:=(jZ.1 (AZ.1 hp).2.1).1 T e;omega
def g7.rest(h:g7 p m a l){S:Nat}(hS:S∈iD l.length)(hd:Rx.zx (gS m l S.testBit)∣Rx.zx a):Rx.zx a=Rx.zx (gS m l S.testBit)*Rx.zx (qT a (gS m l S.testBit))∧g7 p m (qT a (gS m l S.testBit)) (bL (λi=> !S.testBit i) 0 l)∧bL (λi=> !S.testBit i) 0 l≠[]∧(bL (λi=> !S.testBit i) 0 l).length<l.length:=by
 obtain⟨_,hS1,hS2⟩:=yM.1 hS;obtain⟨gm,gl⟩:=h.Fm S.testBit;have hex:∃q,bQ q∧Rx.zx a=Rx.zx (gS m l S.testBit)*Rx.zx q:=by
  obtain⟨k,hk⟩:=hd;have CG:Rx.Mo k:=by have:=Rx.oe h.am;rw[hk]at this;exact this.Cr (Rx.oe gm)
  obtain⟨k',g',k1,_,k2,_⟩:=h.wR CG (Rx.oe gm) hk;exact⟨k',k1,by rw[k2,hk,Rx.mul_comm]⟩
 obtain⟨qm,qe⟩:=xy hex;have e0:qT a (gS m l S.testBit)=Classical.choose hex:=by unfold qT;rw[dif_pos hex]
 rw[←e0]at qm qe;generalize hg:gS m l S.testBit=g at*;generalize qT a g=q at*;obtain⟨b,b1,b2,b3,b4,b5⟩:=h.mask gm qm qe;have hbS:∀j,j<l.length→b j=S.testBit j:=λj hj=>by
  have h1:=b3 j hj;rw[←hg,h.acV S.testBit hj]at h1;cases hb:b j
  ·cases hs:S.testBit j
   ·rfl
   ·rw[h1.2 hs]at hb;cases hb
  ·exact(h1.1 hb).symm
 have Nu:bL (λi=> !b i) 0 l=bL (λi=> !S.testBit i) 0 l:=CF λj hj=>by rw[eR,hbS j hj]
 have hlen:∀(c:Nat→Bool)(L:List (List Int))(i:Nat),(bL c i L).length=cy (λj=>c (i+j)) L.length:=by
  intro c L;induction L with
  |nil=>intro i;rfl
  |cons y L ih=>
   intro i
   have sh:∀n,cy (λj=>c (i+j)) (n+1)=(if c i then 1 else 0)+cy (λj=>c (i+1+j)) n:=by
    intro n;induction n with
    |zero=>rw[cy,cy,cy];simp
    |succ n Sd=>rw[cy,Sd,cy,show i+(n+1)=i+1+n by omega];omega
   rw[bL,fk,sh]
   have:=ih (i+1)
   split
   ·rw[fk];omega
   ·omega
 have qc:(bL (λi=> !S.testBit i) 0 l).length=cy (λi=> !S.testBit i) l.length:=by rw[hlen];exact Np λi _=>by rw[eR]
 have anT:=Ua S.testBit l.length;refine⟨qe,?_,λe=>by rw[e]at qc;simp at qc;omega,by omega⟩;have IY:Rx.zx q∣Rx.zx a:=by rw[qe];exact Rx.dvd_mul_left _ _
 refine⟨h.H,h.pm,qm,λf hf=>h.lm f (xl hf),λf hf=>h.gZ f (xl hf),IV h.pair,Nu▸b5,?_,?_,λg' g1 g2=>h.bd g' g1 (Rx.dvd_trans g2 IY)⟩
 ·refine h.vv.of_dvd ?_;rw[Ud (Rx.Ng qe.symm)];exact dvd_mul_left _ _
 ·rw[b2,(h.Fm _).2,Nu]
def g7.all:∀(k:Nat){a:List Int}{l:List (List Int)},l.length≤k→l≠[]→g7 p m a l→(∀r∈tj m k a l,bQ r∧Rx.cp (Rx.zx r))∧Rx.rY (tj m k a l)=Rx.zx a
 |0,_,l,h1,h2,_=>absurd (ik af) h2
 |k+1,a,l,h1,h2,h=>by
  rw[tj];cases hf:vP m a l with
  |none=>
   have hi:=h.none h2 (anU hf)
   refine⟨λr hr=>?_,Rx.mul_one _⟩
   rw[jw.1 hr]
   exact⟨h.am,hi⟩
  |some S=>
   obtain⟨us,ws,s1,s2,_⟩:=ac3 hf
   have hS:S∈iD l.length:=by rw[s1];simp
   obtain⟨r1,r2,r3,r4⟩:=h.rest hS s2
   obtain⟨i1,i2⟩:=g7.all k af r3 r2
   refine⟨λr hr=>?_,by rw[Rx.rY,i2,←r1]⟩
   rcases dx.1 hr with e|e
   ·rw[e];exact⟨(h.Fm _).1,h.anV hf⟩
   ·exact i1 r e
end
end Go.El
namespace Go.El
open Go Go.RowKit Go.Proofs
abbrev ZZ:ET:= .pr .z .z
def qz(r:Rat):Int×Int:=(r.num,(r.den:Int))
def IZ(E:TypeId)(rs:List Rat):dd (.vec E ZZ (rs.map qz)) (.vec E .q rs):=by
 refine⟨λN g W id h=>?_,λ_ h=>by cases h⟩;rcases h with⟨h1,h2⟩|⟨b,cap,vs,h1,h2,h3,h4,h5,h6,h7,h8⟩
 ·exact .inl ⟨h1,List.map_eq_nil_iff.1 h2⟩
 ·rw[dJ]at h1 h4 h5;refine .inr ⟨b,cap,vs,h1,h2,h3,h4,h5,λi hi=>?_,h7,h8⟩;have:=h6 i (by rw[dJ];exact hi);rw[si]at this;exact this
def ac4(rs:List Rat):au (.c (.S .q rs)) (.c (.S ZZ (rs.map qz))):=by
 refine⟨λg v h=>?_,λ_ h=>by simpa[AV.aD,C.aD]using h⟩;obtain⟨a,cap,h1,h2,h3,h4⟩:nn (dh g.H .q) 4 g.H rs v:=h;refine⟨a,cap,by rw[dJ];exact h1,by rw[dJ];exact h2,by rw[dJ];exact h3,?_⟩;rcases h4 with h4|⟨b,off,e,h4⟩
 ·exact .inl (by rw[h4];rfl)
 ·refine .inr ⟨b,off,e,λi hi=>?_⟩;rw[dJ]at hi;obtain⟨cs,c1,c2,c3⟩:=h4 i hi;exact⟨cs,c1,by rw[si];exact c2,c3⟩
end Go.El
namespace Go.El
open Go Go.Proofs
def anX{α:Type}(a b:α){i n:Nat}(h:i<n):(List.replicate i a++List.replicate (n-i) b).set i a=List.replicate (i+1) a++List.replicate (n-(i+1)) b:=by rw[pS _ _ be,jv,iG,show n-i=(n-(i+1))+1 by omega,v9,Dd,List.replicate_succ',nj];rfl
set_option maxHeartbeats 2000000 in
def Nv(n:Nat)(hn:n≤1000):mY Tryz.prog 245 [cI n] 46 .q (List.replicate n 0):=by
 refine zS Tryz.func245 ae ae ae ae ak ?_;refine rr ae (rb (rm ZZ n ae ae ae ae ae ae KV ae ?_ ?_ (re ae (aj (rr ae ?_)))))
 ·show n*64≤_;omega
 ·show n*4≤_;omega
 refine aK (bA (α:=Nat) (λi=>⟨[(3,.c (.X 1001000)),(7,cI n),(8,cI i)],[(1001000,.vec 46 ZZ (List.replicate i (0,1)++List.replicate (n-i) (0,0)))],3,[]⟩) (λi=>i≤n) (λi=>n-i) 0 (bK _) (wk ⟨sR ae,sR ae,sR ae,ah⟩ ⟨bE ae ae,ah⟩) ?_);intro i hi;refine rr ae (aj (ax ae (λh=>?_) (λh=>?_)))
 ·have h:i<n:=by have h:(i:Int)<(n:Int):=bc h;omega
  have hl:(List.replicate i ((0,1):Int×Int)++List.replicate (n-i) (0,0)).length=n:=cO;refine aC (ai (aj (aK (rr ae (cG (rc ae ae (ME 0 ak ak) (lO ((0,1):Int×Int) ae ae ae ae ae ?_ (re ae (a7 (ai (rt ae (hp:=aR) (a8 (i+1) h OA (wk ⟨sR ae,sR ae,sR ae,ah⟩ ⟨bE ae ?_,ah⟩)))))) (hp:=?_))))))))
  ·show((i:Int)).toNat<_;rw[hl];omega
  ·refine az (aJ.vec 46 ZZ) ?_;show(List.replicate i ((0,1):Int×Int)++List.replicate (n-i) (0,0)).set ((i:Int)).toNat (0,1)=_;rw[bw,anX _ _ h]
  ·show 0≤(i:Int)∧(i:Int)<((List.replicate i ((0,1):Int×Int)++List.replicate (n-i) (0,0)).length:Int);rw[hl];omega
 ·have h:i=n:=by have h:¬(i:Int)<(n:Int):=bC h;omega
  subst h;refine bp (bu (br (bq (ai ?_))));refine dv (st':=⟨[(3,.c (.X 1001000))],[(1001000,.vec 46 .q (List.replicate i 0))],4,[]⟩) (wk ⟨sR ae,ah⟩ ⟨⟨_,ae,?_⟩,ah⟩) (rr ae (aF (ya (id:=1001000) ar ae ae)));have:=IZ 46 (List.replicate i 0);rw[List.map_replicate]at this;rw[iG,wa,kp];exact this
def I0(xs:List Rat)(hl:xs.length≤1000000):aG Tryz.prog 248 [cS .q xs] (cS .q (eh xs)):=by
 refine aX Tryz.func248 ae ae ae ae ae ak ?_;refine rr ae (rr ae ?_);refine aj (aK (bA (α:=Nat) (λk=>⟨[(0,cS .q xs),(3,cI k)],[],2,[]⟩) (λk=>k≤xs.length∧iP xs k=iP xs xs.length) (λk=>k) xs.length ⟨bF _,ae⟩ ck ?_));rintro k ⟨hk,iO⟩;have fin:iP xs k=k→au (cS .q (List.take k xs)) (cS .q (eh xs)):=λe=>by refine au.of_eq ?_;unfold eh;rw[←iO,e]
 refine aj (rb ?_);refine rg 8 ae ae (λh=>?_) (λh=>?_)
 ·have h:0<k:=by have h:(k:Int)>0:=bc h;omega
  obtain⟨j,rfl⟩:∃j,k=j+1:=⟨k-1,by omega⟩;have ej:(((j+1:Nat):Int)-1).toNat=j:=af;refine ia ae ae ae ae ae (Iw (xs.getD (((j+1:Nat):Int)-1).toNat 0)) (re ae ?_) (hp:=jN);refine ax ae (λh2=>?_) (λh2=>?_)
  ·have h2:(xs.getD j 0).num=0:=by have h2:cH (xs.getD (((j+1:Nat):Int)-1).toNat 0).num=0:=eq_of_beq h2;rw[ej]at h2;exact uu.1 h2
   refine aC (ai (aK (rt ae (a7 (a8 j ⟨by omega,?_⟩ pP (wk ⟨sR ae,sE ae ?_,ah⟩ ah))) (hp:=jN))))
   ·rw[←iO,iP,aw h2]
   ·exact az (λz=>AV.c (C.I .i64 z)) (show((j+1:Nat):Int)-1=(j:Int)by omega)
  ·have h2:(xs.getD j 0).num≠0:=by have h2:cH (xs.getD (((j+1:Nat):Int)-1).toNat 0).num≠0:=kN h2;rw[ej]at h2;exact λe=>h2 (uu.2 e)
   exact bp (bu (br (bq (ai (rr ae (aF (aL ar ae (fin (by rw[iP,aq h2])))) (hp:=aR))))))
 ·have h:k=0:=by have h:¬(k:Int)>0:=bC h;omega
  subst h;exact re ae (ax ae (λh2=>by cases h2) (λ_=>bp (bu (br (bq (ai (rr ae (aF (aL ar ae (fin ae))) (hp:=aR))))))))
def oP(r:List Rat)(c:Rat)(b:List Rat)(k m:Nat):List Rat:=(List.range r.length).map λi=>if k≤i∧i<k+m then r.getD i 0+c*b.getD (i-k) 0 else r.getD i 0
def oh(r:List Rat)(c:Rat)(b:List Rat)(k:Nat):List Rat:=oP r c b k b.length
def oQ(r c b k m):(oP r c b k m).length=r.length:=by simp[oP]
def yN{r:List Rat}{c:Rat}{b:List Rat}{k m i:Nat}(hi:i<r.length):(oP r c b k m).getD i 0=if k≤i∧i<k+m then r.getD i 0+c*b.getD (i-k) 0 else r.getD i 0:=by unfold oP;rw[aY,j3,ot hi];rfl
def I1{a b:List Rat}(hl:a.length=b.length)(h:∀i,i<a.length→a.getD i 0=b.getD i 0):a=b:=by
 refine nP hl λi h1 h2=>?_
 have:=h i h1;rwa[aY,ct h1,aY,ct h2]at this
def anY(r c b k):oP r c b k 0=r:=I1 (oQ ..) λi hi=>by rw[oQ]at hi;rw[yN hi,aq af]
def anZ(r b k):oh r 0 b k=r:=I1 (oQ ..) λi hi=>by
 unfold oh at*;rw[oQ]at hi;rw[yN hi];split
 ·rw[wo,sk]
 ·rfl
def I2{l:List Rat}{i:Nat}(c:Nat)(x:Rat)(h:i<l.length):(l.set i x).getD c 0=if i=c then x else l.getD c 0:=by
 rw[aY,F7];by_cases e:i=c
 ·subst e;rw[aw ae,aw ae,aw h];rfl
 ·rw[aq e,aq e,aY]
def an0{r:List Rat}{c:Rat}{b:List Rat}{k m:Nat}(h:k+m<r.length):(oP r c b k m).set (k+m) (r.getD (k+m) 0+c*b.getD m 0)=oP r c b k (m+1):=I1 (by rw[gK,oQ,oQ]) λi hi=>by
 rw[gK,oQ]at hi;rw[I2 _ _ (by rw[oQ];exact h),yN hi,yN hi];by_cases e:k+m=i
 ·subst e;rw[aw ae,aw af,FX]
 ·rw[aq e];by_cases e2:k≤i∧i<k+m
  ·rw[aw e2,aw af]
  ·rw[aq e2,aq af]
def an1{r:List Rat}{c:Rat}{b:List Rat}{k m:Nat}(h:b.getD m 0=0):oP r c b k m=oP r c b k (m+1):=I1 (by rw[oQ,oQ]) λi hi=>by
 rw[oQ]at hi;rw[yN hi,yN hi];by_cases e:i=k+m
 ·subst e;rw[aq af,aw af,FX,h,jG,sk]
 ·by_cases e2:k≤i∧i<k+m
  ·rw[aw e2,aw af]
  ·rw[aq e2,aq af]
def CH{r:Rat}(h:r.num=0):r=0:=Rat.num_eq_zero.1 h
set_option maxRecDepth 100000 in
set_option maxHeartbeats 4000000 in
def Ug{s:Nat}(hs:s≤1000000000)(r:List Rat)(c:Rat)(b:List Rat)(k:Nat)(hl:k+b.length≤r.length)(kA:r.length≤1000)(hr:∀i,QS s (r.getD i 0))(hc:QS s c)(hb:∀i,QS s (b.getD i 0)):
  mZ Tryz.prog 253 [.c (.X 0),aQ c,cS .q b,cI k] 46 .q r (.t []) (oh r c b k):=by
 refine qt Tryz.func253 ae ae ae ae ae ak ?_
 refine rr ae (aj (rb (rc ae ae (Iw c) (re ae (ax ae (λh=>?_) (λh=>aC (ai ?_)))))))
 ·have h:cH c.num=0:=eq_of_beq h;have h:c=0:=CH (uu.1 h);subst h;rw[anZ];exact aF (bW (tT ar ae (au.refl _) ae))
 refine rr ae ?_
 refine aK (bA (α:=Nat) (λm=>⟨[(0,.c (.X 0)),(3,cI k),(5,.c (.P 1000000 0)),(13,cS .q b),(14,cI b.length),(15,cI m)],[(0,.vec 46 .q (oP r c b k m)),(1000000,.box 46 0 (av .q c))],4,[]⟩) (λm=>m≤b.length) (λm=>b.length-m) 0 (bK _) (wk ⟨sR ae,sR ae,sR ae,sR ae,sR ae,sR ae,ah⟩ ⟨bE ae ?_,bE ae ae,ah⟩) ?_)
 ·rw[anY]
 intro m hm
 refine rr ae (aj (ax ae (λh=>?_) (λh=>?_)))
 ·have h:m<b.length:=by have h:(m:Int)<(b.length:Int):=bc h;omega
  have em:((m:Int)).toNat=m:=bw m;have ek:((m:Int)+(k:Int)).toNat=k+m:=af;have EJ:=oQ r c b k m;have hg:(oP r c b k m).getD ((m:Int)+(k:Int)).toNat 0=r.getD (k+m) 0:=by rw[ek,yN af,aq af]
  have uj:QS s (b.getD ((m:Int)).toNat 0):=hb _;have hrm:QS (2*s) ((oP r c b k m).getD ((m:Int)+(k:Int)).toNat 0):=by rw[hg];exact(hr _).le af
  refine aC (ai (aj (aK (rr ae (rb (rc ae ae (Iw (b.getD ((m:Int)).toNat 0)) (re ae (ax ae (λh2=>?_) (λh2=>aC ?_)))))))))
  ·refine cG (rc ae ae (Tg c (b.getD ((m:Int)).toNat 0) hc uj af) (rc ae ae (alZ _ _ hrm (hc.mul uj) af) (lO ((oP r c b k m).getD ((m:Int)+(k:Int)).toNat 0+c*b.getD ((m:Int)).toNat 0) ae ae ae ae ae ?_ (re ae ?_) (hp:=?_))) (hp:=?_))
   ·show((m:Int)+(k:Int)).toNat<(oP r c b k m).length;rw[ek,EJ];omega
   ·refine a7 (ai (rt ae (hp:=aR) (a8 (m+1) h (by show b.length-(m+1)<b.length-m;omega) (wk ⟨sR ae,sR ae,sR ae,sR ae,sR ae,sR ae,ah⟩ ⟨bE ae ?_,bE ae ae,ah⟩))));show aJ.vec 46 .q ((oP r c b k m).set ((m:Int)+(k:Int)).toNat ((oP r c b k m).getD ((m:Int)+(k:Int)).toNat 0+c*b.getD ((m:Int)).toNat 0))=_;rw[hg,ek,em,an0 af]
   ·simp only[Pr.an,Pr.h,num,aA,true_and,and_true];omega
   ·simp only[Pr.an,Pr.h,num,aA,true_and,and_true];omega
  ·have h2:cH (b.getD ((m:Int)).toNat 0).num=0:=qC h2;rw[em]at h2;have h2:=CH (uu.1 h2);refine a7 (ai (rt ae (hp:=aR) (a8 (m+1) h (by show b.length-(m+1)<b.length-m;omega) (wk ⟨sR ae,sR ae,sR ae,sR ae,sR ae,sR ae,ah⟩ ⟨bE ae ?_,bE ae ae,ah⟩))));rw[an1 h2]
 ·have h:m=b.length:=by have h:¬(m:Int)<(b.length:Int):=bC h;omega
  subst h;exact bp (bu (br (bq (zW ar ae (au.refl _) ae))))
def QS.zero{s:Nat}(h:1≤s):QS s 0:=⟨aU.zero _,(aU.one (a:=1) ak).le h⟩
def QS.int{s:Nat}(h:1≤s){n:Int}(hn:n.natAbs<4294967296):QS s (n:Rat):=⟨(aU.one hn).le h,(aU.one (a:=1) ak).le h⟩
def oi(c:Rat)(a:List Rat):List Rat:=a.map (c*·)
def ac5(c:Rat)(a:List Rat)(i:Nat):(oi c a).getD i 0=c*a.getD i 0:=by
 unfold oi;rw[aY,j3,aY];cases a[i]? with
 |none=>show(0:Rat)=c*0;rw[jG]
 |some x=>rfl
def Nw(n i:Nat):(List.replicate n (0:Rat)).getD i 0=0:=by rw[aY,mM];split<;>rfl
def an3(c:Rat)(a:List Rat):oh (List.replicate a.length 0) c a 0=oi c a:=I1 (by rw[oh,oQ,jv,oi,dJ]) λi hi=>by rw[oh,oQ,jv]at hi;rw[oh,yN (by rw[jv];exact hi),aw af,Nw,Gf,A9,ac5]
set_option maxHeartbeats 2000000 in
def Uh{s:Nat}(h1:1≤s)(hs:s≤1000000000)(c:Rat)(a:List Rat)(hl:a.length≤1000)(hc:QS s c)(ha:∀i,QS s (a.getD i 0)):aG Tryz.prog 200 [aQ c,cS .q a] (cS .q (eh (oi c a))):=by refine aX Tryz.func200 ae ae ae ae ae ak ?_;have hz:=Nv a.length hl;have CI:=Ug hs (List.replicate a.length 0) c a 0 Ot (by rw[jv];exact hl) (λi=>by rw[Nw];exact QS.zero h1) hc ha;rw[an3]at CI;have ht:=I0 (oi c a) (by unfold oi;rw[dJ];omega);refine rr ae (rb (wK ae ae hz (re ae (rb (nX 1002000 ae CI ae ae (re ae ?_))))));exact fS 1002000 ae ae ae (rb (rc ae ae ht (re ae (aF (aL ar ae (au.refl _))))))
def ac6{s:Nat}(hs:s≤1000000000)(a:List Rat)(h0:a≠[])(hl9:a.length≤1000)(hn:a.getD (a.length-1) 0≠0)(ha:QS s (a.getD (a.length-1) 0)):aG Tryz.prog 201 [cS .q a] (aQ (a.getD (a.length-1) 0)⁻¹):=by
 refine aX Tryz.func201 ae ae ae ae ae ak ?_;have hl:=cX.2 h0;have e1:((a.length:Int)-1).toNat=a.length-1:=af;have hi:aG Tryz.prog 252 [aQ (a.getD ((a.length:Int)-1).toNat 0)] (.t [(true,av .q (a.getD (a.length-1) 0)⁻¹),(false,[.I .i64 0])]):=by rw[e1];exact Tf _ (λe=>hn (CH e)) (ha.n.sm af) (ha.d.sm af)
 refine rr ae (aj (rr ae (ax ae (λh=>?_) (λh=>aC (ai ?_)))))
 ·have h:(a.length:Int)=0:=eq_of_beq h;exact absurd h af
 refine rb (rc ae ae hi (re ae (rr ae (aF (aL ar ae (au.refl _))))) (hp:=aR))
def ac7{s:Nat}(h1:1≤s)(hs:s≤1000000000)(a:List Rat)(h0:a≠[])(hl:a.length≤1000)(hn:a.getD (a.length-1) 0≠0)(ha:∀i,QS s (a.getD i 0))(CJ:QS s (a.getD (a.length-1) 0)⁻¹):aG Tryz.prog 199 [cS .q a] (cS .q (eh (oi (a.getD (a.length-1) 0)⁻¹ a))):=by
 refine aX Tryz.func199 ae ae ae ae ae ak ?_;have hlp:=cX.2 h0;have e1:((a.length:Int)-1).toNat=a.length-1:=af;have hi:aG Tryz.prog 252 [aQ (a.getD ((a.length:Int)-1).toNat 0)] (.t [(true,av .q (a.getD (a.length-1) 0)⁻¹),(false,[.I .i64 0])]):=by rw[e1];exact Tf _ (λe=>hn (CH e)) ((ha _).n.sm af) ((ha _).d.sm af)
 refine rr ae (aj (rr ae (ax ae (λh=>?_) (λh=>aC (ai ?_)))))
 ·have h:(a.length:Int)=0:=eq_of_beq h;exact absurd h af
 refine rb (rc ae ae hi (re ae (rb (rc ae ae (Uh h1 hs _ a hl CJ ha) (re ae (aF (aL ar ae (au.refl _))))))) (hp:=aR))
def QS.inv{s:Nat}{a:Rat}(h:QS s a)(h0:a≠0):QS s a⁻¹ :=by
 have hn:a.num≠0:=λe=>h0 (CH e)
 rw[Rat.inv_def];have hp:=Hn (a.den:Int) a.num hn;have hg:Int.gcd (a.den:Int) a.num=1:=by rw[Int.gcd_comm];exact a.reduced
 rw[hg]at hp;by_cases vz:a.num<0
 ·rw[aw vz,show-(((1:Nat):Int))= -1 from ae,Dj,zg,Dj,zg]at hp;exact⟨by rw[hp.1];exact h.d.neg,by rw[hp.2];exact h.n.neg⟩
 ·rw[aq vz,show(((1:Nat):Int))=1 from ae,zg,zg]at hp;exact⟨by rw[hp.1];exact h.d,by rw[hp.2];exact h.n⟩
def nc(a:List Rat):List Rat:=(List.range (a.length-1)).map λi=>(((i+1:Nat):Int):Rat)*a.getD (i+1) 0
def ac8(a):(nc a).length=a.length-1:=by simp[nc]
def ac9{a:List Rat}{i:Nat}(h:i<a.length-1):(nc a).getD i 0=(((i+1:Nat):Int):Rat)*a.getD (i+1) 0:=by unfold nc;rw[aY,j3,ot h];rfl
def an5{L:List Rat}{i n:Nat}(hL:L.length=n)(h:i<n):(L.take i++List.replicate (n-i) 0).set i (L.getD i 0)=L.take (i+1)++List.replicate (n-(i+1)) 0:=by have hl:(L.take i).length=i:=cO;rw[pS _ _ af,hl,iG,show n-i=(n-(i+1))+1 by omega,v9,Dd,JL af,nj,aY,ct af];rfl
set_option maxRecDepth 100000 in
set_option maxHeartbeats 4000000 in
def an6{s:Nat}(h1:1≤s)(hs:s≤1000000000)(a:List Rat)(hl:a.length≤1000)(ha:∀i,QS s (a.getD i 0)):aG Tryz.prog 196 [cS .q a] (cS .q (eh (nc a))):=by
 refine aX Tryz.func196 ae ae ae ae ae ak ?_;refine rr ae (aj (rr ae (ax ae (λh=>?_) (λh=>aC (ai ?_)))))
 ·have h:(a.length:Int)=0:=eq_of_beq h;have h:a=[]:=ik af;subst h;exact rr ae (aF (bW (aL ar ae (au.nil _))))
 have h:0<a.length:=by have h:(a.length:Int)≠0:=kN h;omega
 obtain⟨n,hn⟩:∃n,a.length=n+1:=⟨a.length-1,by omega⟩;have en:(a.length:Int)-1=(n:Int):=af;have hz:=Nv n af;rw[←en]at hz;have Mv:=ac8 a;have ht:=I0 (nc a) af;refine rb (wK ae ae hz (re ae ?_) (hp:=aR));refine aj (rr ae ?_);rw[jv];refine aK (bA (α:=Nat) (λi=>⟨[(0,cS .q a),(3,.c (.X 2003000)),(13,cI n),(14,cI i)],[(2003000,.vec 46 .q ((nc a).take i++List.replicate (n-i) 0))],5,[]⟩) (λi=>i≤n) (λi=>n-i) 0 (bK _) (wk ⟨sR ae,sR ae,sR ae,sR ae,ah⟩ ⟨bE ae ae,ah⟩) ?_);intro i hi;refine rr ae (aj (ax ae (λh2=>?_) (λh2=>?_)))
 ·have h2:i<n:=by have h2:(i:Int)<(n:Int):=bc h2;omega
  have sX:((nc a).take i++List.replicate (n-i) (0:Rat)).length=n:=cO;have e1:((i:Int)+1)=((i+1:Nat):Int):=rfl;have e2:((i:Int)+1).toNat=i+1:=af;have hw:=ME ((i:Int)+1) af af;have hm:=Tg (((i:Int)+1:Int):Rat) (a.getD ((i:Int)+1).toNat 0) (QS.int h1 af) (ha _) af;refine aC (ai (aj (aK (rr ae (cG (rc ae ae hw (rc ae ae hm (lO ((((i:Int)+1:Int):Rat)*a.getD ((i:Int)+1).toNat 0) ae ae ae ae ae ?_ (re ae (a7 (ai (rt ae (hp:=aR) (a8 (i+1) h2 OA (wk ⟨sR ae,sR ae,sR ae,sR ae,ah⟩ ⟨bE ae ?_,ah⟩)))))) (hp:=?_)) (hp:=?_)) (hp:=aR)))))))
  ·show((i:Int)).toNat<_;rw[sX];omega
  ·refine az (aJ.vec 46 .q) ?_;show((nc a).take i++List.replicate (n-i) (0:Rat)).set ((i:Int)).toNat ((((i:Int)+1:Int):Rat)*a.getD ((i:Int)+1).toNat 0)=_;rw[bw,e2];have:=an5 (L:=nc a) (n:=n) af h2;rwa[ac9 af]at this
  ·show 0≤(i:Int)∧(i:Int)<(((nc a).take i++List.replicate (n-i) (0:Rat)).length:Int);rw[sX];omega
  ·simp only[Pr.an,Pr.h,num,aA,true_and,and_true];omega
 ·have h2:i=n:=by have h2:¬(i:Int)<(n:Int):=bC h2;omega
  subst h2;rw[iG,wa,kp,lD af];exact bp (bu (br (bq (ai (fS 2003000 ae ae ae (rb (rc ae ae ht (re ae (aF (aL ar ae (au.refl _)))))))))))
def AL(a:List Rat)(M:Nat):List Rat:=a++List.replicate (M-a.length) 0
def Nx{a:List Rat}{M:Nat}(h:a.length≤M):(AL a M).length=M:=by simp[AL];omega
def ac'(a:List Rat)(M i:Nat):(AL a M).getD i 0=a.getD i 0:=by
 unfold AL;rw[aY,aY];by_cases h:i<a.length
 ·rw[FV h]
 ·rw[y8 af,ni (l:=a) af,mM];split<;>rfl
def uB(a:List Rat)(c:Rat)(b:List Rat):List Rat:=oh (AL a (max a.length b.length)) c b 0
set_option maxRecDepth 100000 in
set_option maxHeartbeats 4000000 in
def an7{s:Nat}(h1:1≤s)(hs:s≤1000000000)(a:List Rat)(c:Rat)(b:List Rat)(la:a.length≤1000)(lb:b.length≤1000)(aN:0<max a.length b.length)(ha:∀i,QS s (a.getD i 0))(hc:QS s c)(hb:∀i,QS s (b.getD i 0)):aG Tryz.prog 254 [cS .q a,aQ c,cS .q b,cI 0] (cS .q (eh (uB a c b))):=by
 refine aX Tryz.func254 ae ae ae ae ae ak ?_;generalize hM:max a.length b.length=M at*;have I3:M≤1000:=af;have hz:=Nv M I3;have CI:=Ug hs (AL a M) c b 0 (by rw[Nx af];omega) (by rw[Nx af];exact I3) (λi=>by rw[ac'];exact ha i) hc hb;have ht:=I0 (uB a c b) (by rw[uB,oh,oQ,hM,Nx af];omega);have e:uB a c b=oh (AL a M) c b 0:=by rw[uB,hM]
 rw[←e]at CI;have eM:(if(b.length:Int)+0>(a.length:Int)then(b.length:Int)+0 else(a.length:Int))=(M:Int):=by split<;>omega
 have gV:mY Tryz.prog 245 [cI (if(b.length:Int)+0>(a.length:Int)then(b.length:Int)+0 else(a.length:Int))] 46 .q (List.replicate M 0):=by rw[eM];exact hz
 refine rr ae (rb (wK ae ae gV (re ae ?_)));refine rb (G9 ae ae ae ae ae Ot (λe=>by have:=az List.length e;rw[jv]at this;simp at this;omega) (re ae ?_));rw[V5];change TR _ _ _ ⟨_,(_,.vec 46 .q (AL a M))::_,_,_⟩ _;refine rb (nX 1007000 ae CI ae ae (re ae ?_));exact fS 1007000 ae ae ae (rb (rc ae ae ht (re ae (aF (aL ar ae (au.refl _))))))
def an8{s:Nat}(h1:1≤s)(hs:s≤1000000000)(a b:List Rat)(la:a.length≤1000)(lb:b.length≤1000)(aN:0<max a.length b.length)(ha:∀i,QS s (a.getD i 0))(hb:∀i,QS s (b.getD i 0)):aG Tryz.prog 202 [cS .q a,cS .q b] (cS .q (eh (uB a (-1) b))):=by refine aX Tryz.func202 ae ae ae ae ae ak ?_;have hw:=ME (-1) ak ak;have tW:=an7 h1 hs a (((-1:Int)):Rat) b la lb aN ha (QS.int h1 ak) hb;rw[show(((-1:Int)):Rat)= -1 from ae]at tW hw;exact rr ae (rb (rc ae ae hw (rc ae ae tW (re ae (aF (aL ar ae (au.refl _)))))))
end Go.El
namespace Go.El
open Go Go.RowKit Go.Proofs
section
variable{P:Program}{tt:List (Nat×TI)}
def an9(aT:cL P tt=true){n new:Nat}{ops:Array Oper}{i:Nat}{o:Oper}(ho:ops[i]? =some o)(hg:o.guard=none){d:Nat}(hd:o.dst=some d)(aV:d<n){x y:Operand}{t1 t2:TypeId}(b9:o.op= .call ⟨.builtin .copy,#[x,y],#[t1,t2]⟩)
  {st:St} {id:Nat} {E E1:TypeId} {T:ET} {ei:TI} (hx:st.ev x=some (.c (.X id))) (hl:ao id st.mem=some (.vec E T [])) (hy:st.ev y=some (.c (.S T []))) (hT:D7 tt t1 t2=some (E1,ei)) (kL:ei.size=T.n):
  kY P n ops i st (st.put d (.c (.I .i64 0))) new (cF [x,y]++fp [id],[.s d]):=by
 refine⟨(dQ st x++dQ st y)++gU st [id],[(.s d,some (.v (.c (.I .i64 0))))],?_,?_,nV st d _,?_,λk hk=>by simpa[fe]using hk⟩
 ·refine uS ho hg hd aV _ _ new ?_;intro F known σ g W a aH bt;have hT:=XL aT hT;rw[kL]at hT;have lH:a.eval x=g.γ id:=gy aH st x _ hx (λkx aS=>bt kx jt);have ph:=gy aH st y _ hy (λkx aS=>bt kx jt);have hσ:σ (.m id)=some (.b (.vec E T ([]:List T.den))):=bt (.m id,.b (.vec E T [])) uG;obtain⟨e2,nq⟩:=hT.u2;obtain⟨inf,z,lI,sO,xV,xW,GU⟩:=hT.info;obtain⟨us,zN,Qz,sT,GV⟩:=XC (P:=P) (st:=st) (sz:=T.n) (y:= .c (.S T [])) (m:=0) (cs:=[]) (ids:=[]) aH (by simp[KT]) ph (λid al=>by cases al) nq ae;have ja:us=[]:=Qz;subst ja;refine⟨λj hj=>(by cases hj),(.int .i64 0:Value),?_,ae⟩;have bZ:(Builtin.copy_ #[t1,t2] o.type #[a.eval x,a.eval y]).run P W= .ok (.int .i64 0) W:=by
   rw[lH];have hc:=zN.cells;rcases aH.c9 id _ hσ with⟨hγ,_⟩|⟨b,cap,vs,hγ,hh,j9,pc,hlen,hr,hN,hz⟩
   ·rw[hγ];simp[Builtin.copy_,run_underlying hT.u1,sizeOf,typeInfo,lI,zN.len,sO,hc,goInt,Sem.run,pure]
   ·rw[hγ];simp[Builtin.copy_,run_underlying hT.u1,sizeOf,typeInfo,lI,zN.len,sO,hc,goInt,Sem.run,pure,storeCells]
  refine KQ b9 (λcs=>?_);have e:(#[x,y]:Array Operand).map a.eval= #[a.eval x,a.eval y]:=be;rw[e];simp only[Go.builtin,Sem.run_bind,bZ,Result.andThen];rfl
 ·intro kx aS;rcases bX.1 aS with h|h
  ·rcases bX.1 h with h|h
   ·exact fY _ x kx h
   ·exact fY _ y kx h
  ·exact rB _ [id] kx h
 ·intro k hk;simp only[dO,dZ,bX]at hk;rcases hk with(h|h)|h
  ·exact fM _ (fR st [x,y] k yX)
  ·exact fM _ (fR st [x,y] k yY)
  ·exact jY _ (qf st [id] k h)
end
section
variable{n:Nat}{sl sl':List (Nat×AV)}{mem mem':List (Nat×aJ)}{nx:Nat}{gd gd':List (Nat×Bool)}{ops:Array Oper}{draw:Bool}{p:Pr}{ks cj:List Ks}{i i' n0 b7:Nat}{os cE:List Oper}{d:Nat}{ty:TypeId}{pos:String}{cJ:Array Edge}{R:St→Prop}
def an'{x y:Operand}{t1 t2:TypeId}{id:Nat}{E E1:TypeId}{T:ET}{ei:TI}(h:runs eB n nx draw ops.toList os i ⟨sl,mem,n0,gd⟩ .t ks=(⟨some d,.call ⟨.builtin .copy,#[x,y],#[t1,t2]⟩,ty,pos,cJ,none⟩::cE,i',⟨sl',mem',b7,gd'⟩,p,cj))
  (hx:St.ev ⟨sl',mem',b7,gd'⟩ x=some (.c (.X id))) (hl:ao id mem'=some (.vec E T [])) (hy:St.ev ⟨sl',mem',b7,gd'⟩ y=some (.c (.S T []))) (hT:D7 eB t1 t2=some (E1,ei))
  (hk:RG Tryz.prog n ops draw nx (i'+1) cE ⟨(d,.c (.I .i64 0))::sl',mem',b7,gd'⟩ (fi draw cj (cF [x,y]++fp [id],[.s d])) R) (kL:ei.size=T.n:=by rfl)
  (hp:p:=by first|trivial| (simp only[Pr.an,Pr.h,num,aA,true_and,and_true];first|done|omega)| (simp[Pr.an,Pr.h,num,aA];done)| (simp[Pr.an,Pr.h,num,aA];omega)) (aV:Nat.blt d n=true:=by rfl):RG Tryz.prog n ops draw nx i os ⟨sl,mem,n0,gd⟩ ks R:=
 jB ar h hp (kM (λho=>an9 ar ho ae ae (cT aV) ae hx hl hy hT kL) (jA hk))
end
end Go.El
