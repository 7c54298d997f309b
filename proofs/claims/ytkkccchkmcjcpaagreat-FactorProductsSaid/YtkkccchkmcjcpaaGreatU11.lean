/- Contracts: lifting of factors, the second part: the steps. Own work; no condition. -/
import Derived.Test.YtkkccchkmcjcpaaGreatU10
import Derived.Test.YtkkccchkmcjcpaaGreatU7
import Derived.Test.YtkkccchkmcjcpaaGreatU9
import Derived.Test.YtkkccchkmcjcpaaGreatU5
set_option linter.defProp false
set_option linter.unusedVariables false
set_option linter.unusedSimpArgs false
set_option linter.unnecessarySimpa false
namespace Go.El
open Go Go.RowKit Go.Proofs
structure sr(p:Nat)(a:List Int)(l:Nat→List Int)(r k w:Nat):Prop where
 H:tD p l r
 k1:1≤k
 acZ:k≤1000
 la:a.length≤400
 ac0:w≤1000
 ha:∀i,aW w (a.getD i 0)
 qy:a.length=(fD l p r).length
def ac1{F:Nat→List Int}{m:Int}:∀t j,(∀i,i<j+t→1≤(F i).length)→(fD F m j).length≤(fD F m (j+t)).length
 |0,_,_=>bD _
 |t+1,j,h=>by
  have h1:=ac1 (m:=m) t j λi hi=>h i af
  have h2:=h (j+t) af;have h3:(fD F m (j+(t+1))).length=(fD F m (j+t)).length+(F (j+t)).length-1:=CU _ _ _;omega
def vZ(a pr:List Int)(next q:Int)(t:Nat):List Int:=(List.range a.length).map λi=>if i<t then(a.getD i 0-pr.getD i 0)%next/q else 0
def y6(a pr:List Int)(next q:Int)(t:Nat):(vZ a pr next q t).length=a.length:=by simp[vZ]
def NL(a pr:List Int)(next q:Int)(t:Nat){i:Nat}(h:i<a.length):(vZ a pr next q t).getD i 0=if i<t then(a.getD i 0-pr.getD i 0)%next/q else 0:=FR _ _ h
def anP(a pr:List Int)(next q:Int):List.replicate a.length (0:Int)=vZ a pr next q 0:=by
 refine xE (by rw[y6,jy]) λj hj=>?_
 rw[jy]at hj;rw[NL _ _ _ _ _ hj,aq af,aU,mU,aw hj];rfl
def anQ(a pr:List Int)(next q:Int)(t:Nat)(ht:t<a.length):(vZ a pr next q t).set t ((a.getD t 0-pr.getD t 0)%next/q)=vZ a pr next q (t+1):=by
 refine xE (by rw[gO,y6,y6]) λj hj=>?_
 rw[gO,y6]at hj;rw[mH _ _ _ _ (by rw[y6];exact ht),NL _ _ _ _ _ hj,NL _ _ _ _ _ hj];by_cases e:t=j
 ·subst e;rw[aw be,aw af]
 ·by_cases e2:j<t
  ·rw[aq af,aw e2,aw af]
  ·rw[aq af,aq e2,aq af]
def anR(a pr:List Int)(next q:Int):vZ a pr next q a.length=AU a pr next q:=by unfold vZ AU;exact List.map_congr_left λi hi=>aw (k7.1 hi)
def FV{r j:Nat}(h:j<r):((List.range r).map λi=>C.X (1+i))[0+((j:Int)).toNat*1]? =some (.X (1+j)):=by rw[bu,eZ,k9,kc,oI h];rfl
section
variable{p:Nat}{a:List Int}{l:Nat→List Int}{r k w:Nat}(A:sr p a l r k w){s:Nat}
include A
def sr.NM(s:Nat):(0:Int)<(p:Int)^s:=sI (by have:=A.H.hp.1;omega)
def sr.qB(s:Nat):aW (s+1) ((p:Int)^s):=acQ A.H.dp s
def sr.q1(s:Nat):(1:Int)<(p:Int)^(s+1):=by have h1:=A.NM s;have h2:=A.H.hp.1;rw[fU];have:=jx (show(2:Int)≤(p:Int)by omega) (Bs h1);omega
def sr.FB(s i:Nat)(hi:i<r)(j:Nat):aW (s+2) ((cX p a l r s i).getD j 0):=by obtain⟨_,h⟩:=A.H.st a s i hi;exact aW.lt (h j).1 (h j).2 (A.qB (s+1))
def sr.Jn(s i:Nat)(hi:i<r):(cX p a l r s i).length=(l i).length:=(A.H.st a s i hi).1
def sr.Fne(s i:Nat)(hi:i<r):cX p a l r s i≠[]:=λe=>by have h1:=A.Jn s i hi;have h2:=A.H.l2 i hi;rw[e]at h1;simp at h1;omega
def sr.ac3(s:Nat)(m:Int):(fD (cX p a l r s) m r).length=a.length:=by rw[A.qy];exact Uo r λi hi=>A.Jn s i hi
def sr.Ple(s:Nat)(m:Int)(j:Nat)(hj:j≤r):1≤(fD (cX p a l r s) m j).length∧(fD (cX p a l r s) m j).length≤a.length:=by
 have h0:∀i,i<r→1≤(cX p a l r s i).length:=λi hi=>cZ.2 (A.Fne s i hi)
 refine⟨acR j λi hi=>h0 i af,?_⟩;have h:=ac1 (F:=cX p a l r s) (m:=m) (r-j) j λi hi=>h0 i af
 rw[show j+(r-j)=r by omega,A.ac3 s m]at h;exact h
def sr.PB(s j t:Nat):aW (s+3) ((fD (cX p a l r s) ((p:Int)^(s+1)*(p:Int)) j).getD t 0):=by have h:=A.q1 (s+1);rw[fU]at h;have h2:=A.qB (s+2);rw[fU]at h2;obtain⟨h3,h4⟩:=anD (F:=cX p a l r s) h j t;exact aW.lt h3 h4 h2
end
def gP(p:Nat)(a:List Int)(l:Nat→List Int)(r s i:Nat)(C:List Int)(t:Nat):Nat→List Int:=λq=>if q<i then cX p a l r (s+1) q else if q=i then uF (cX p a l r s i) C ((p:Int)^(s+1)) t else cX p a l r s q
def anT(p:Nat)(a:List Int)(l:Nat→List Int)(r s i:Nat)(C:List Int)(q:Nat):gP p a l r s i C 0 q=if q<i then cX p a l r (s+1) q else cX p a l r s q:=by
 unfold gP;split
 ·rfl
 ·split
  ·rename_i e;subst e;exact anA _ _ _
  ·rfl
def Jo(p:Nat)(a:List Int)(l:Nat→List Int)(r s i:Nat)(C:List Int)(t:Nat):gP p a l r s i C t i=uF (cX p a l r s i) C ((p:Int)^(s+1)) t:=by unfold gP;rw[aq af,aw ae]
def anU(p:Nat)(a:List Int)(l:Nat→List Int)(r s i:Nat)(C:List Int)(t u:Nat){q:Nat}(h:q≠i):gP p a l r s i C t q=gP p a l r s i C u q:=by unfold gP;rw[aq h,aq h]
def anV(p:Nat)(a:List Int)(l:Nat→List Int)(r s i:Nat)(C:List Int)(hC:nQ p a l r ((p:Int)^(s+1)) (cX p a l r s) i=C)(q:Nat):gP p a l r s i C C.length q=if q<i+1 then cX p a l r (s+1) q else cX p a l r s q:=by
 by_cases e:q=i
 ·subst e;rw[Jo,aw af,anC _ (bD _),←hC];rfl
 ·unfold gP;rw[aq e];by_cases e2:q<i
  ·rw[aw e2,aw af]
  ·rw[aq e2,aq af]
set_option maxHeartbeats 8000000 in
def anW{Q:fG}{p:Nat}{l:Nat→List Int}{r:Nat}{a:List Int}{k w:Nat}(A:sr p a l r k w)(y:Code)
  (rest:TR Tryz.prog 231 y ⟨[(9,.c (.L 1002000 0 r (some r))),(19,.c (.P 6001000 0))],[(6001000,.box 44 0 (av .z ((p:Int)^k)))]++fg 1002000 57 r 44 .z (cX p a l r (k-1)),9,[]⟩ Q) {c0 c1 c2 c3 d0 d1 d2:Code} (hc:Tryz.f97.body=some (.seq c0 (.seq c1 (.seq c2 (.seq c3 (.seq d0 (.seq d1 (.seq d2 y)))))))):
  TR Tryz.prog 231 (.seq d0 (.seq d1 (.seq d2 y))) ⟨[(0,cS .z a),(1,cS TP (jh l r p)),(2,cU p),(3,cI k),(9,.c (.L 1002000 0 r (some r))),(10,.c (.X 2002000))],[(2002000,.vec 101 TP (ot p l r r))]++fg 1002000 57 r 44 .z l,5,[]⟩ Q:=by
 generalize hz:y=z at rest⊢
 cases hc
 clear hz
 have hr:=A.H.NG
 have h2:=A.H.hp.1
 have dp:=A.H.dp
 have gT:=A.k1
 have dR:=A.acZ
 have EG:=A.la
 have FT:(jh l r p).length=r:=by simp[jh]
 have yz:∀i,i<r→(jh l r p).getD i ([],0)=(l i,(p:Int)):=λi hi=>FR _ _ hi
 have anX:aG Tryz.prog 100 [.c (num .i64 (p:Int)).1] (aZ p):=oT _ af af
 refine rb (rc ae ae anX (re ae (rr ae ?_)))
 refine yB _ rest (λje=>rr ae (aH (bA (α:=Nat) (λs=>⟨[(0,cS .z a),(1,cS TP (jh l r p)),(2,cU p),(9,.c (.L 1002000 0 r (some r))),(10,.c (.X 2002000)),(18,.c (.P 5003000 0)),(19,.c (.P 6001000 0)),(99,cI ((k:Int)-1)),(100,cI s)],[(2002000,.vec 101 TP (ot p l r r)),(5003000,.box 44 0 (av .z (p:Int))),(6001000,.box 44 0 (av .z ((p:Int)^(s+1))))]++fg 1002000 57 r 44 .z (cX p a l r s),8,[]⟩) (λs=>s+1≤k) (λs=>k-s) 0 af ?_ ?_)))
 ·refine iD ⟨sR ae,sR ae,sR ae,sR ae,sR ae,sR ae,sR ae,sR ae,sR ae,ah⟩ ⟨bR ae,bR ae,bE ae ?_,ah⟩ ae (λq hq=>cC) af;exact ay (λz=>aK.box 44 0 (av .z z)) (by rw[GM])
 intro s hs
 have hq:=A.NM (s+1)
 have xc:=A.qB (s+1)
 have fe:(0:Int)<(p:Int)^(s+1)*p:=by rw[←fU];exact A.NM (s+2)
 have NN:aW (s+3) ((p:Int)^(s+1)*(p:Int)):=by rw[←fU];exact A.qB (s+2)
 have hpS:Sm (p:Int):=Sm.of af
 refine rr ae (aj (ax ae (λh=>?_) (λh=>?_)))
 ·have vw:s+1<k:=by have h:(s:Int)<(k:Int)-1:=a9 h;omega
  have hmul:=uu ((p:Int)^(s+1)) p (xc.sm af) hpS;have iO:aG Tryz.prog 100 [cI 1] (aZ 1):=oT 1 af af;refine aC (ai (aj (aH (rb (rc ae ae hmul (re ae (rb (rc ae ae iO (rl .z [1] ae ae (re ae ?_))))))))));refine aj (rb (iV ae ae ah (re ae (aH (bA (α:=Nat) (λj=>⟨[(0,cS .z a),(1,cS TP (jh l r p)),(2,cU p),(9,.c (.L 1002000 0 r (some r))),(10,.c (.X 2002000)),(18,.c (.P 5003000 0)),(19,.c (.P 6001000 0)),(20,.c (.P 9003000 0)),(21,cS .z (fD (cX p a l r s) ((p:Int)^(s+1)*(p:Int)) j)),(99,cI ((k:Int)-1)),(100,cI s),(107,.c (.L 1002000 0 r (some r))),(108,cI r),(109,cI j)],[(2002000,.vec 101 TP (ot p l r r)),(5003000,.box 44 0 (av .z (p:Int))),(6001000,.box 44 0 (av .z ((p:Int)^(s+1)))),(9003000,.box 44 0 (av .z ((p:Int)^(s+1)*(p:Int))))]++fg 1002000 57 r 44 .z (cX p a l r s),12,[]⟩) (λj=>j≤r) (λj=>r-j) 0 (bK _) ?_ ?_)))))
  ·exact iD ⟨sR ae,sR ae,sR ae,sR ae,sR ae,sR ae,sR ae,sR ae,sR ae,sR ae,sR ae,sR ae,sR ae,sR ae,ah⟩ ⟨bR ae,bR ae,bR ae,bR ae,ah⟩ ae (λq hq=>cC) af
  intro j hj;refine rr ae (aj (ax ae (λh=>?_) (λh=>?_)))
  ·have pZ:j<r:=by have h:(j:Int)<(r:Int):=a9 h;omega
   obtain⟨BH,qA⟩:=A.Ple s ((p:Int)^(s+1)*(p:Int)) j hj;have Il:=A.Jn s j pZ;have R5:=A.H.FQ j pZ;have CV:=anu (fD (cX p a l r s) ((p:Int)^(s+1)*(p:Int)) j) (cX p a l r s j) ((p:Int)^(s+1)*(p:Int)) (s+3) (s+2) af af af (λe=>by rw[e]at BH;simp at BH) (A.Fne s j pZ) fe (A.PB s j) (A.FB s j pZ) (NN.le af);refine aC (ai (aj (aH (rb ?_))));refine iV ae ae ?_ (mL ar (c:= .X (1+j)) ae ae ?_ ae (re ae ?_ (ho:=qX fR)))
   ·exact⟨by show(0:Int)≤(j:Int);omega,by show(j:Int)<(r:Int);omega⟩
   ·exact FV pZ
   refine cK (n9 (1+j) ae CV ae cC (re ae ?_ (ho:=qX fR)));refine a6 (ai (rt ae (a8 (j+1) pZ (by show r-(j+1)<r-j;omega) (iD ⟨sR ae,sR ae,sR ae,sR ae,sR ae,sR ae,sR ae,sR ae,sR ae,sR ae,sR ae,sR ae,sR ae,sR ae,ah⟩ ⟨⟨_,(bH af).trans ae,di.refl _⟩,⟨_,(bH af).trans ae,di.refl _⟩,⟨_,(bH af).trans ae,di.refl _⟩,⟨_,(bH af).trans ae,di.refl _⟩,ah⟩ ((bH af).trans ae) (λq hq=>?_) af))));by_cases e:q=j
   ·subst e;exact CF
   ·refine(bH af).trans ?_;exact cC
  ·have pZ:r=j:=by have h:¬(j:Int)<(r:Int):=bC h;omega
   subst pZ;have TB:=A.ac3 s ((p:Int)^(s+1)*(p:Int));have hPB:=A.PB s r;refine bh (bt (bq (bp (ai ?_))));refine rb (rm .z a.length ae ae ae ae ae ae (λg=>B0 g) ae ?_ ?_ (re ae ?_))
   ·show _*32≤_;omega
   ·show _*2≤_;omega
   generalize hP:fD (cX p a l r s) ((p:Int)^(s+1)*(p:Int)) r=P at*;refine aj (rr ae (aH (bA (α:=Nat) (λi=>⟨[(0,cS .z a),(1,cS TP (jh l r p)),(2,cU p),(9,.c (.L 1002000 0 r (some r))),(10,.c (.X 2002000)),(18,.c (.P 5003000 0)),(19,.c (.P 6001000 0)),(20,.c (.P 9003000 0)),(21,cS .z P),(24,.c (.X 13002000)),(99,cI ((k:Int)-1)),(100,cI s),(122,cI a.length),(123,cI i)],[(2002000,.vec 101 TP (ot p l r r)),(5003000,.box 44 0 (av .z (p:Int))),(6001000,.box 44 0 (av .z ((p:Int)^(s+1)))),(9003000,.box 44 0 (av .z ((p:Int)^(s+1)*(p:Int)))),(13002000,.vec 44 .z (vZ a P ((p:Int)^(s+1)*(p:Int)) ((p:Int)^(s+1)) i))]++fg 1002000 57 r 44 .z (cX p a l r s),15,[]⟩) (λi=>i≤a.length) (λi=>a.length-i) 0 (bK _) ?_ ?_)))
   ·exact iD ⟨sR ae,sR ae,sR ae,sR ae,sR ae,sR ae,sR ae,sR ae,sR ae,sR ae,sR ae,sR ae,sR ae,sR ae,ah⟩ ⟨bR ae,bR ae,bR ae,bR ae,⟨_,ae,di.of_eq (ay (aK.vec 44 .z) (anP a P _ _))⟩,ah⟩ ae (λq hq=>cC) af
   intro i hi;refine rr ae (aj (ax ae (λh=>?_) (λh=>?_)))
   ·have nP:i<a.length:=by have h:(i:Int)<(a.length:Int):=a9 h;omega
    have hw:=A.ac0;have eL:aG Tryz.prog 163 [.a (av .z (a.getD ((i:Int)).toNat 0)),.a (av .z (P.getD ((i:Int)).toNat 0))] (aZ (a.getD i 0-P.getD i 0)):=by rw[bu];exact RV _ _ ((A.ha i).sm af) ((hPB i).sm af)
    have LO:=xe (a.getD i 0-P.getD i 0) ((p:Int)^(s+1)*(p:Int)) af (((A.ha i).le (Nat.le_max_left w (s+3))).sub ((hPB i).le (Nat.le_max_right w (s+3)))|>.sm af) (NN.sm af);have uk:=xe ((a.getD i 0-P.getD i 0)%((p:Int)^(s+1)*(p:Int))) ((p:Int)^(s+1)) af ((aW.emod fe NN).sm af) (xc.sm af);refine aC (ai (aj (aH (rr ae (rb (rc ae ae eL (rc ae ae LO (re ae ?_))))))));refine cK (rc ae ae uk (lV ((a.getD i 0-P.getD i 0)%((p:Int)^(s+1)*(p:Int))/(p:Int)^(s+1)) ae ae ae ae ae ?_ (re ae ?_) (hp:=?_)))
    ·rw[y6,bu];exact nP
    ·refine a6 (ai (rt ae (a8 (i+1) nP oF (iD ⟨sR ae,sR ae,sR ae,sR ae,sR ae,sR ae,sR ae,sR ae,sR ae,sR ae,sR ae,sR ae,sR ae,sR ae,ah⟩ ⟨bR ae,bR ae,bR ae,bR ae,⟨_,ae,di.of_eq (ay (aK.vec 44 .z) (anQ a P _ _ i nP))⟩,ah⟩ ae (λq hq=>cC) af))))
    ·have:=y6 a P ((p:Int)^(s+1)*(p:Int)) ((p:Int)^(s+1)) i;simp only[Pr.an,Pr.h,num,aA,true_and,and_true];omega
   ·have nP:i=a.length:=by have h:¬(i:Int)<(a.length:Int):=bC h;omega
    subst nP;have NO:a7 (md p (vZ a P ((p:Int)^(s+1)*(p:Int)) ((p:Int)^(s+1)) a.length))=mi p a r ((p:Int)^(s+1)) (cX p a l r s):=by rw[anR,mi,hP]
    have vu:=TV (vZ a P ((p:Int)^(s+1)*(p:Int)) ((p:Int)^(s+1)) a.length) p (by rw[y6];omega) h2 dp (λt=>by
     by_cases ht:t<a.length
     ·rw[NL _ _ _ _ _ ht,aw ht];exact(aW.ediv (gZ _ af) hq (aW.emod fe NN)).sm af
     ·rw[dH _ (by rw[y6];omega)];exact(aW.zero 1).sm af)
    rw[NO]at vu;refine bh (bt (bq (bp (ai ?_))));refine IH 13002000 ae ae ae af ?_;refine rb (rc ae ae vu (re ae ?_));refine aj (rr ae (aH (bA (α:=Nat) (λi=>⟨[(0,cS .z a),(1,cS TP (jh l r p)),(2,cU p),(9,.c (.L 1002000 0 r (some r))),(10,.c (.X 2002000)),(18,.c (.P 5003000 0)),(19,.c (.P 6001000 0)),(20,.c (.P 9003000 0)),(29,.c (.P 16003000 0)),(99,cI ((k:Int)-1)),(100,cI s),(155,cS TP (jh l r p)),(156,cI r),(157,cI i)],[(2002000,.vec 101 TP (ot p l r r)),(5003000,.box 44 0 (av .z (p:Int))),(6001000,.box 44 0 (av .z ((p:Int)^(s+1)))),(9003000,.box 44 0 (av .z ((p:Int)^(s+1)*(p:Int)))),(16003000,.box 101 0 [.S aM (mi p a r ((p:Int)^(s+1)) (cX p a l r s)),.I .u64 p])]++fg 1002000 57 r 44 .z (λq=>if q<i then cX p a l r (s+1) q else cX p a l r s q),18,[]⟩) (λi=>i≤r) (λi=>r-i) 0 (bK _) ?_ ?_)))
    ·refine iD ⟨sR ae,sR ae,sR ae,sR ae,sR ae,sR ae,sR ae,sR ae,sR ae,sR ae,sR ae,sR ae,sE ae ?_,sR ae,ah⟩ ⟨bR ae,bR ae,bR ae,bR ae,bR ae,ah⟩ ae (λq hq=>?_) af
     ·exact ay (λz:Nat=>cI (z:Int)) FT
     ·exact cC
    intro i hi;refine rr ae (aj (ax ae (λh=>?_) (λh=>?_)))
    ·have dJ:i<r:=by have h:(i:Int)<(r:Int):=a9 h;omega
     obtain⟨m1,m2,m3,m4⟩:=A.H.NH dJ a ((p:Int)^(s+1)) (cX p a l r s);obtain⟨v1,v2,_⟩:=A.H.inv dJ;have ES:=A.H.FQ i dJ;have Il:=A.Jn s i dJ;have atK:=Uu p l r r (bD _);have yV:aG Tryz.prog 159 [.a (av TP ((jh l r p).getD ((i:Int)).toNat ([],0))),aP (mi p a r ((p:Int)^(s+1)) (cX p a l r s)) p,.a (av TP ((ot p l r r).getD ((i:Int)).toNat ([],0)))] (aP (nQ p a l r ((p:Int)^(s+1)) (cX p a l r s) i) p):=by rw[bu,yz i dJ,anK p l r dJ];exact Im p A.H.hp dp (l i) _ (kV p (dS p l i r) (l i)) af af af (A.H.c i dJ) m1 v1 (A.H.ne dJ)
     have hFi:=A.FB s i dJ;generalize hC:nQ p a l r ((p:Int)^(s+1)) (cX p a l r s) i=C at*;refine aC (ai (aj (aH (rr ae (rb (rc ae ae yV (re ae ?_)))))));refine aH (bA (α:=Nat) (λt=>⟨[(0,cS .z a),(1,cS TP (jh l r p)),(2,cU p),(9,.c (.L 1002000 0 r (some r))),(10,.c (.X 2002000)),(18,.c (.P 5003000 0)),(19,.c (.P 6001000 0)),(20,.c (.P 9003000 0)),(29,.c (.P 16003000 0)),(30,cI i),(99,cI ((k:Int)-1)),(100,cI s),(155,cS TP (jh l r p)),(156,cI r),(157,cI i),(169,cS aM C),(170,cI C.length),(171,cI t)],[(2002000,.vec 101 TP (ot p l r r)),(5003000,.box 44 0 (av .z (p:Int))),(6001000,.box 44 0 (av .z ((p:Int)^(s+1)))),(9003000,.box 44 0 (av .z ((p:Int)^(s+1)*(p:Int)))),(16003000,.box 101 0 [.S aM (mi p a r ((p:Int)^(s+1)) (cX p a l r s)),.I .u64 p])]++fg 1002000 57 r 44 .z (gP p a l r s i C t),21,[]⟩) (λt=>t≤C.length) (λt=>C.length-t) 0 (bK _) ?_ ?_)
     ·refine iD ⟨sR ae,sR ae,sR ae,sR ae,sR ae,sR ae,sR ae,sR ae,sR ae,sR ae,sR ae,sR ae,sR ae,sR ae,sR ae,sR ae,sR ae,sR ae,ah⟩ ⟨bR ae,bR ae,bR ae,bR ae,bR ae,ah⟩ ae (λq hq=>?_) af;refine Eq.trans (cC) (ay (λz=>some (aK.vec 44 .z z)) (anT p a l r s i C q).symm)
     intro t ht;have hct:=m3.1 t;have FU:aG Tryz.prog 100 [.c (num .i64 (C.getD ((t:Int)).toNat 0)).1] (aZ (C.getD t 0)):=by rw[bu];exact oT _ af af
     have NK: -9223372036854775808≤C.getD ((t:Int)).toNat 0∧C.getD ((t:Int)).toNat 0≤9223372036854775807:=by rw[bu];omega
     have Au:aW 1 (C.getD t 0):=aW.one af;have anZ:=uu ((p:Int)^(s+1)) (C.getD t 0) (xc.sm af) (Au.sm af);refine rr ae (aj (ax ae (λh=>?_) (λh=>?_)))
     ·have lS:t<C.length:=by have h:(t:Int)<(C.length:Int):=a9 h;omega
      have pX:aG Tryz.prog 103 [.a (av .z ((gP p a l r s i C t i).getD ((t:Int)).toNat 0)),aZ ((p:Int)^(s+1)*C.getD t 0)] (aZ ((cX p a l r s i).getD t 0+(p:Int)^(s+1)*C.getD t 0)):=by rw[bu,Jo,yZ _ _ _ _ _ af,aq af];exact Av _ _ ((hFi t).sm af) ((xc.mul Au).sm af)
      have jP:(gP p a l r s i C t i).length=(l i).length:=by rw[Jo,uH,Il]
      have hb:(0:Int)≤(i:Int)∧(i:Int)<(r:Int):=⟨by omega,by omega⟩;refine aC (ai (aj (aH (rr ae (rb (rc ae ae FU (rc ae ae anZ (re ae ?_)) (hp:=Wu)))))));refine cK (iV ae ae hb (mL ar (c:= .X (1+i)) ae ae (FV dJ) ae (iV ae ae hb (mL ar (c:= .X (1+i)) ae ae (FV dJ) ae (rk 1 ae ae ?_)))));refine qV ar (T:= .z) (xs:=gP p a l r s i C t i) ae cC ae ae af (by rw[jP];omega) ?_;refine yQ ar ae cC ae ae ae Pf ?_;refine rc ae ae pX ?_;refine rk 0 ae ae (qV ar (T:= .z) (xs:=gP p a l r s i C t i) ae cC ae ae af (by rw[jP];omega) ?_);refine BT ar (T:= .z) (id:=1+i) (xs:=gP p a l r s i C t i) ae cC ae ae ae ((cX p a l r s i).getD t 0+(p:Int)^(s+1)*C.getD t 0) ae Pf ?_;refine re ae ?_ (ho:=qX fR);refine a6 (ai (rt ae (a8 (t+1) lS (by show C.length-(t+1)<C.length-t;omega) (iD ⟨sR ae,sR ae,sR ae,sR ae,sR ae,sR ae,sR ae,sR ae,sR ae,sR ae,sR ae,sR ae,sR ae,sR ae,sR ae,sR ae,sR ae,sR ae,ah⟩ ⟨⟨_,(bH af).trans ae,di.refl _⟩,⟨_,(bH af).trans ae,di.refl _⟩,⟨_,(bH af).trans ae,di.refl _⟩,⟨_,(bH af).trans ae,di.refl _⟩,⟨_,(bH af).trans ae,di.refl _⟩,ah⟩ ((bH af).trans ae) (λq hq=>?_) af))));by_cases e:q=i
      ·subst e;refine CF.trans (ay (λz=>some (aK.vec 44 .z z)) ?_);rw[bu,Jo,Jo];exact anB _ _ _ _ af
      ·refine(bH af).trans (Eq.trans (cC) (ay (λz=>some (aK.vec 44 .z z)) (anU p a l r s i C t (t+1) e)))
     ·have lS:t=C.length:=by have h:¬(t:Int)<(C.length:Int):=bC h;omega
      subst lS;refine bh (bt (bq (bp (a6 (ai (rt ae (a8 (i+1) dJ (by show r-(i+1)<r-i;omega) (iD ⟨sR ae,sR ae,sR ae,sR ae,sR ae,sR ae,sR ae,sR ae,sR ae,sR ae,sR ae,sR ae,sR ae,sR ae,ah⟩ ⟨bR ae,bR ae,bR ae,bR ae,bR ae,ah⟩ ae (λq hq=>?_) af))))))));exact Eq.trans (cC) (ay (λz=>some (aK.vec 44 .z z)) (anV p a l r s i C hC q))
    ·have dJ:r=i:=by have h:¬(i:Int)<(r:Int):=bC h;omega
     subst dJ;refine bh (bt (bq (bp (ai (rt ae (a6 (ai (rt ae (a8 (s+1) vw (by show k-(s+1)<k-s;omega) (iD ⟨sR ae,sR ae,sR ae,sR ae,sR ae,sR ae,sR ae,sR ae,sR ae,ah⟩ ⟨bR ae,bR ae,bE ae ?_,ah⟩ ae (λq hq=>?_) af))))))))))
     ·exact ay (λz=>aK.box 44 0 (av .z z)) (fU (p:Int) (s+1)).symm
     ·exact Eq.trans (cC) (ay (λz=>some (aK.vec 44 .z z)) (aw hq))
 ·have vw:s+1=k:=by have h:¬(s:Int)<(k:Int)-1:=bC h;omega
  subst vw;exact bh (bt (bq (bp (nG je (iD ⟨sR ae,sR ae,ah⟩ ⟨bR ae,ah⟩ ae (λq hq=>cC) af)))))
def tE(F:List Int)(m:Int)(t:Nat):List Int:=(List.range F.length).map λj=>if j<t then ft (F.getD j 0) m else F.getD j 0
def v5(F:List Int)(m:Int)(t:Nat):(tE F m t).length=F.length:=by simp[tE]
def FW(F:List Int)(m:Int)(t:Nat){j:Nat}(h:j<F.length):(tE F m t).getD j 0=if j<t then ft (F.getD j 0) m else F.getD j 0:=FR _ _ h
def ac6(F:List Int)(m:Int):tE F m 0=F:=by
 refine xE (v5 F m 0) λj hj=>?_
 rw[v5]at hj;rw[FW _ _ _ hj,aq af]
def ac7(F:List Int)(m:Int)(t:Nat)(ht:t<F.length):(tE F m t).set t (ft (F.getD t 0) m)=tE F m (t+1):=by
 refine xE (by rw[gO,v5,v5]) λj hj=>?_
 rw[gO,v5]at hj;rw[mH _ _ _ _ (by rw[v5];exact ht),FW _ _ _ hj,FW _ _ _ hj];by_cases e:t=j
 ·subst e;rw[aw be,aw af]
 ·by_cases e2:j<t
  ·rw[aq af,aw e2,aw af]
  ·rw[aq af,aq e2,aq af]
def ac8(F:List Int)(m:Int):tE F m F.length=F.map (ft · m):=by
 refine nV (by rw[v5,dM]) λj h1 h2=>?_
 rw[v5]at h1;have h:=FW F m F.length h1;rw[aw h1,aU,cr (by rw[v5];exact h1),aU,cr h1]at h;rw[sH];exact h
def gQ(F:Nat→List Int)(m:Int)(i t:Nat):Nat→List Int:=λq=>if q<i then(F q).map (ft · m)else if q=i then tE (F i) m t else F q
def an0(F:Nat→List Int)(m:Int)(i q:Nat):gQ F m i 0 q=if q<i then(F q).map (ft · m)else F q:=by
 unfold gQ;split
 ·rfl
 ·split
  ·rename_i e;subst e;exact ac6 _ _
  ·rfl
def Jp(F:Nat→List Int)(m:Int)(i t:Nat):gQ F m i t i=tE (F i) m t:=by unfold gQ;rw[aq af,aw ae]
def an1(F:Nat→List Int)(m:Int)(i t u:Nat){q:Nat}(h:q≠i):gQ F m i t q=gQ F m i u q:=by unfold gQ;rw[aq h,aq h]
def an2(F:Nat→List Int)(m:Int)(i q:Nat):gQ F m i (F i).length q=if q<i+1 then(F q).map (ft · m)else F q:=by
 by_cases e:q=i
 ·subst e;rw[Jp,aw af,ac8]
 ·unfold gQ;rw[aq e];by_cases e2:q<i
  ·rw[aw e2,aw af]
  ·rw[aq e2,aq af]
def an3{tt:TT}{st:St}{t id:Nat}{E:TypeId}{T:ET}{xs:List T.den}{ti:TI}(h:ao id st.mem=some (.vec E T xs))(ht:ao t tt=some ti){u:TypeId}(hk:ti.kind= .sl u:=by rfl):Ee tt st t id=some (cI xs.length):=by simp only[Ee,h,ht,hk]
set_option maxHeartbeats 8000000 in
def ac9{p:Nat}{l:Nat→List Int}{r:Nat}{a:List Int}{k w:Nat}(A:sr p a l r k w):aG Tryz.prog 97 [cS .z a,cS TP (jh l r p),cU p,cI k] (.c (.S (.sl .z) (AW p a l r k))):=by
 refine aX Tryz.func97 ae ae ae ae ae ak ?_;refine anM A.H a k _ (anW A _ ?_ ae) ae;have hr:=A.H.NG;have gT:=A.k1;have dR:=A.acZ;have Il:=λi hi=>A.Jn (k-1) i hi
 have hFB:=λi hi=>A.FB (k-1) i hi
 have hmB:=A.qB k;have ju:=A.NM k;have hL:AW p a l r k=(List.range r).map λq=>(cX p a l r (k-1) q).map (ft · ((p:Int)^k)):=rfl
 rw[hL];generalize cX p a l r (k-1)=F at*;generalize (p:Int)^k=m at*;refine aj (rb (iV ae ae ah (re ae (aH (bA (α:=Nat) (λi=>⟨[(9,.c (.L 1002000 0 r (some r))),(19,.c (.P 6001000 0)),(201,cI r),(202,cI i)],[(6001000,.box 44 0 (av .z m))]++fg 1002000 57 r 44 .z (λq=>if q<i then(F q).map (ft · m)else F q),11,[]⟩) (λi=>i≤r) (λi=>r-i) 0 (bK _) ?_ ?_)))))
 ·exact iD ⟨sR ae,sR ae,sR ae,sR ae,ah⟩ ⟨bR ae,ah⟩ ae (λq hq=>cC) af
 intro i hi;refine rr ae (aj (ax ae (λh=>?_) (λh=>?_)))
 ·have dJ:i<r:=by have h:(i:Int)<(r:Int):=a9 h;omega
  have ES:=A.H.FQ i dJ;have hFi:=Il i dJ;have hb:(0:Int)≤(i:Int)∧(i:Int)<(r:Int):=⟨by omega,by omega⟩;refine aC (ai (aj (aH (rr ae (rb (iV ae ae hb (mL ar (c:= .X (1+i)) ae ae (FV dJ) ae ?_)))))));refine ak1 ar (v:=cI (F i).length) ae ?_ (re ae ?_)
  ·exact an3 (E:=44) (T:= .z) (xs:=F i) (Eq.trans (cC) (ay (λz=>some (aK.vec 44 .z z)) (aq af))) ae
  refine aH (bA (α:=Nat) (λt=>⟨[(9,.c (.L 1002000 0 r (some r))),(19,.c (.P 6001000 0)),(35,cI i),(201,cI r),(202,cI i),(209,cI (F i).length),(210,cI t)],[(6001000,.box 44 0 (av .z m))]++fg 1002000 57 r 44 .z (gQ F m i t),14,[]⟩) (λt=>t≤(F i).length) (λt=>(F i).length-t) 0 (bK _) ?_ ?_)
  ·refine iD ⟨sR ae,sR ae,sR ae,sR ae,sR ae,sR ae,sR ae,ah⟩ ⟨bR ae,ah⟩ ae (λq hq=>?_) af;exact Eq.trans (cC) (ay (λz=>some (aK.vec 44 .z z)) (an0 F m i q).symm)
  intro t ht;refine rr ae (aj (ax ae (λh=>?_) (λh=>?_)))
  ·have lS:t<(F i).length:=by have h:(t:Int)<((F i).length:Int):=a9 h;omega
   have jP:(gQ F m i t i).length=(F i).length:=by rw[Jp,v5]
   have Uv:aG Tryz.prog 164 [.a (av .z ((gQ F m i t i).getD ((t:Int)).toNat 0)),aZ m] (aZ (ft ((F i).getD t 0) m)):=by rw[bu,Jp,FW _ _ _ lS,aq af];exact acM _ m (k+1) af ju ((hFB i dJ t).sm af) hmB
   refine aC (ai (aj (aH (rr ae (cK ?_)))));refine iV ae ae hb (mL ar (c:= .X (1+i)) ae ae (FV dJ) ae (iV ae ae hb (mL ar (c:= .X (1+i)) ae ae (FV dJ) ae (rk 1 ae ae ?_))));refine qV ar (T:= .z) (xs:=gQ F m i t i) ae cC ae ae af (by rw[jP];omega) ?_;refine yQ ar ae cC ae ae ae Pf ?_;refine rc ae ae Uv ?_;refine rk 0 ae ae (qV ar (T:= .z) (xs:=gQ F m i t i) ae cC ae ae af (by rw[jP];omega) ?_);refine BT ar (T:= .z) (id:=1+i) (xs:=gQ F m i t i) ae cC ae ae ae (ft ((F i).getD t 0) m) ae Pf ?_;refine re ae ?_ (ho:=qX fR);refine a6 (ai (rt ae (a8 (t+1) lS (by show(F i).length-(t+1)<(F i).length-t;omega) (iD ⟨sR ae,sR ae,sR ae,sR ae,sR ae,sR ae,sR ae,ah⟩ ⟨⟨_,(bH af).trans ae,di.refl _⟩,ah⟩ ((bH af).trans ae) (λq hq=>?_) af))));by_cases e:q=i
   ·subst e;refine CF.trans (ay (λz=>some (aK.vec 44 .z z)) ?_);rw[bu,Jp,Jp];exact ac7 _ _ _ lS
   ·refine(bH af).trans (Eq.trans (cC) (ay (λz=>some (aK.vec 44 .z z)) (an1 F m i t (t+1) e)))
  ·have lS:t=(F i).length:=by have h:¬(t:Int)<((F i).length:Int):=bC h;omega
   subst lS;refine bh (bt (bq (bp (a6 (ai (rt ae (a8 (i+1) dJ (by show r-(i+1)<r-i;omega) (iD ⟨sR ae,sR ae,sR ae,sR ae,ah⟩ ⟨bR ae,ah⟩ ae (λq hq=>?_) af))))))));exact Eq.trans (cC) (ay (λz=>some (aK.vec 44 .z z)) (an2 F m i q))
 ·have dJ:r=i:=by have h:¬(i:Int)<(r:Int):=bC h;omega
  subst dJ;refine bh (bt (bq (bp (ai ?_))));refine rr ae (aF (ak9 ar (E:=44) ae ae (λq hq=>?_) af));exact Eq.trans (cC) (ay (λz=>some (aK.vec 44 .z z)) (aw hq))
def p5(p:Int)(l:Nat→List Int):Nat→List Int
 |0=>[1]
 |i+1=>eD (p5 p l i) (l i) p
def o9(l:Nat→List Int)(p:Int)(r i:Nat):List (List Int×Int):=(List.range i).map (λj=>(l j,p))++List.replicate (r-i) ([],0)
def ac'(l:Nat→List Int)(p:Int)(r i:Nat)(h:i≤r):(o9 l p r i).length=r:=by unfold o9;simp;omega
def an6(l:Nat→List Int)(p:Int)(r i:Nat)(h:i<r):(o9 l p r i).set i (l i,p)=o9 l p r (i+1):=by unfold o9;rw[qi _ _ be,show r-i=(r-(i+1))+1 by omega,wC,qk,eh];simp
def an7(l:Nat→List Int)(p:Int)(r i:Nat):(o9 l p r (i+1)).getD i ([],0)=(l i,p):=by unfold o9;rw[aU,Gt be,kc,oI af];rfl
def an8(l:Nat→List Int)(p:Int)(r:Nat):o9 l p r r=jh l r p:=by unfold o9 jh;rw[iw,wD,kB]
structure LiB(p:Nat)(a:List Int)(Ls:List (List Int))(k w:Nat):Prop where
 A:sr p a (λi=>Ls.getD i []) Ls.length k w
 pm:p≤2147483647
 an9:k≤200
 a0:a≠[]
 a1:a.getD (a.length-1) 0=1
 l1:∀i,i<Ls.length→(Ls.getD i []).getD ((Ls.getD i []).length-1) 0=1
 prc:∀i,i≤Ls.length→bX p (p5 p (λi=>Ls.getD i []) i)∧p5 p (λi=>Ls.getD i []) i≠[]∧(p5 p (λi=>Ls.getD i []) i).length≤400
 prg:∀i,i<Ls.length→(gx p (p5 p (λi=>Ls.getD i []) i) (Ls.getD i [])).length=1
 pra:p5 p (λi=>Ls.getD i []) Ls.length=a7 (md p a)
set_option maxHeartbeats 8000000 in
def aob{p:Nat}{a:List Int}{Ls:List (List Int)}{k w:Nat}(B:LiB p a Ls k w):aG Tryz.prog 29 [cS .z a,cS (.sl aM) Ls,cU p,cI k] (.t [(false,[.S (.sl .z) (AW p a (λi=>Ls.getD i []) Ls.length k)]),(false,[.I .i64 0])]):=by
 refine aX Tryz.func29 ae ae ae ae ae ak ?_;have A:=B.A;have hr:=A.H.NG;have hp:=A.H.hp;have h2:=hp.1;have jM:=B.pm;have dp:=A.H.dp;have gT:=A.k1;have dR:=B.an9;have EG:=A.la;have hw:=A.ac0;have NP:∀i,Sm (a.getD i 0):=λi=>(A.ha i).sm af
 have FX:=anw a af B.a0 NP B.a1;refine rr ae (aj (rb (rc ae ae (Sk p hp jM) (rg 17 ae ae (λh=>by cases h) (λ_=>rg 21 ae ae (λhb=>?_) (λhb=>?_))))))
 ·exfalso;have hb:(k:Int)<1:=a9 hb;omega
 refine rg 25 ae ae (λdO=>?_) (λdO=>?_)
 ·exfalso;have dO:(k:Int)>200:=a9 dO;omega
 refine fj ae ae ae ae ae FX (re ae ?_);refine ax ae (λh=>by cases h) (λ_=>aC (ai ?_));refine rb (rm TP Ls.length ae ae ae ae ae ae acS ae ?_ ?_ (re ae ?_))
 ·show _*32≤_;omega
 ·show _*2≤_;omega
 refine rb (rl aM [1] ae ae (re ae ?_));refine aj (rr ae (aH (bA (α:=Nat) (λi=>⟨[(0,cS .z a),(1,cS (.sl aM) Ls),(2,cU p),(3,cI k),(10,.c (.X 2002000)),(11,.c (.P 3003000 0)),(36,cS (.sl aM) Ls),(37,cI Ls.length),(38,cI i)],[(2002000,.vec 101 TP (o9 (λi=>Ls.getD i []) p Ls.length i)),(3003000,.box 101 0 [.S aM (p5 p (λi=>Ls.getD i []) i),.I .u64 p])],5,[]⟩) (λi=>i≤Ls.length) (λi=>Ls.length-i) 0 (bK _) (wk ⟨sR ae,sR ae,sR ae,sR ae,sR ae,sR ae,sR ae,sR ae,sR ae,ah⟩ ⟨bE ae ae,bR ae,ah⟩) ?_)));intro i hi;refine rr ae (aj (ax ae (λh=>?_) (λh=>?_)))
 ·have dJ:i<Ls.length:=by have h:(i:Int)<(Ls.length:Int):=a9 h;omega
  have rf:bX p (Ls.getD i []):=A.H.c i dJ;have qA:2≤(Ls.getD i []).length:=A.H.l2 i dJ;have atM:(Ls.getD i []).length≤100:=A.H.FQ i dJ;have BH:=B.l1 i dJ;obtain⟨q1,q2,q3⟩:=B.prc i hi;have hg:=B.prg i dJ;have hgL:(o9 (λi=>Ls.getD i []) (p:Int) Ls.length (i+1)).getD i ([],0)=(Ls.getD i [],(p:Int)):=an7 (λi=>Ls.getD i []) (p:Int) Ls.length i;have hlI:=ac' (λi=>Ls.getD i []) (p:Int) Ls.length i hi;have atN:=ac' (λi=>Ls.getD i []) (p:Int) Ls.length (i+1) dJ;have L7:(o9 (λi=>Ls.getD i []) (p:Int) Ls.length i).set i (Ls.getD i [],(p:Int))=o9 (λi=>Ls.getD i []) (p:Int) Ls.length (i+1):=an6 (λi=>Ls.getD i []) (p:Int) Ls.length i dJ;have aoe:p5 p (λi=>Ls.getD i []) (i+1)=eD (p5 p (λi=>Ls.getD i []) i) (Ls.getD i []) p:=rfl;have aR:Ls.getD i []≠[]:=λe=>by rw[e]at qA;simp at qA
  obtain⟨M,M0,M1,oM⟩:=anx (Ls.getD i []) p af aR rf.1;have hgc:=Mm p hp dp (p5 p (λi=>Ls.getD i []) i) (Ls.getD i []) af af q1 rf q2;have AD:=uv (gx p (p5 p (λi=>Ls.getD i []) i) (Ls.getD i [])) p af;have CV:=Ia (p5 p (λi=>Ls.getD i []) i) (Ls.getD i []) p af af af af q1.1 rf.1;have hn:(Ls.getD ((i:Int)).toNat (ET.eR (.sl aM)))=Ls.getD i []:=ay (λz=>Ls.getD z []) (bu i);refine aC (ai (aj (aH (rr ae ?_))));rw[hn];generalize hE:Ls.getD i []=e at*;refine aj (rb (rg 46 ae ae (λhb=>?_) (λhb=>?_)))
  ·exfalso;have hb:(e.length:Int)<2:=a9 hb;omega
  have hle:((e.length:Int)-1).toNat=e.length-1:=af;refine rg 55 ae ae (λdO=>?_) (λdO=>?_)
  ·exfalso;have dO:(e.getD ((e.length:Int)-1).toNat 0 !=1)=true:=dO;exact oU dO (by rw[hle];exact BH)
  refine fj ae ae ae ae ae oM (re ae ?_);refine ax ae (λh=>?_) (λh=>aC (ai ?_))
  ·exfalso;have h:M≥(p:Int):=a9 h;omega
  refine rb (lV (e,(p:Int)) ae ae ae ae ae Pd (re ae ?_));have tR:(((o9 (λi=>Ls.getD i []) (p:Int) Ls.length i).set ((i:Int)).toNat (e,(p:Int))).getD ((i:Int)).toNat ([],0))=(e,(p:Int)):=by rw[bu,L7];exact hgL
  have hlen:((o9 (λi=>Ls.getD i []) (p:Int) Ls.length i).set ((i:Int)).toNat (e,(p:Int))).length=Ls.length:=by rw[gO];exact hlI
  refine aj (rb (rc ae ae (vs:=[aP (p5 p (λi=>Ls.getD i []) i) p,.a (av TP (((o9 (λi=>Ls.getD i []) (p:Int) Ls.length i).set ((i:Int)).toNat (e,(p:Int))).getD ((i:Int)).toNat ([],0)))]) (by rw[tR];exact hgc) (rc ae ae AD (re ae ?_))));refine ax ae (λh=>?_) (λh=>aC (ai ?_))
  ·exfalso;have h:((gx p (p5 p (λi=>Ls.getD i []) i) e).length:Int)-1>0:=a9 h;omega
  refine cK (rc ae ae (vs:=[aP (p5 p (λi=>Ls.getD i []) i) p,.a (av TP (((o9 (λi=>Ls.getD i []) (p:Int) Ls.length i).set ((i:Int)).toNat (e,(p:Int))).getD ((i:Int)).toNat ([],0)))]) (by rw[tR];exact CV) (re ae ?_));refine a6 (ai (rt ae (a8 (i+1) dJ (by show Ls.length-(i+1)<Ls.length-i;omega) (wk ⟨sR ae,sR ae,sR ae,sR ae,sR ae,sR ae,sR ae,sR ae,sR ae,ah⟩ ⟨bE ae ?_,bE ae ?_,ah⟩))))
  ·exact ay (aK.vec 101 TP) (by rw[bu];exact L7)
  ·rw[aoe];rfl
 ·have dJ:i=Ls.length:=by have h:¬(i:Int)<(Ls.length:Int):=bC h;omega
  subst dJ;obtain⟨q1,q2,q3⟩:=B.prc Ls.length (bD _);have vu:=TV a p af h2 dp NP;have heq:=anz (p5 p (λi=>Ls.getD i []) Ls.length) (a7 (md p a)) af;refine bh (bt (bq (bp (ai ?_))));refine aj (rb (rc ae ae vu (rc ae ae heq (re ae ?_))));refine ax ae (λh=>?_) (λh=>aC (ai ?_))
  ·exfalso;rw[B.pra]at h;simp at h
  refine fY 2002000 ae ae ae ?_;have ES:=ac9 A;rw[←an8]at ES;refine rb (rc ae ae ES (re ae (aF (aL ar ae (au.refl _)))))
end Go.El
namespace Go.El
open Go Go.Proofs
def bT(a:List Int):Prop:=a≠[]∧a.getD (a.length-1) 0=1
def bT.can{a:List Int}(h:bT a):can a:= .inr (by rw[h.2];decide)
def bT.trim{a:List Int}(h:bT a):a7 a=a:=ZJ h.can
def bT.md{p:Int}(hp:1<p){a:List Int}(h:bT a):bT (md p a):=by refine⟨λe=>h.1 (iu (by rw[←yF p a,e];rfl)),?_⟩;rw[yF,Ie,h.2];exact iZ ak hp
end Go.El
namespace Go.El
namespace Rx
def zx(a:List Int):Rx:=lx (a.map λx:Int=>(x:Rat))
def mj(a:List Int)(i:Nat):zx a i=((a.getD i 0:Int):Rat):=by show(a.map λx:Int=>(x:Rat)).getD i 0=_;rw[aU,kc,aU];cases a[i]? <;>rfl
def CZ(a:List Int):eI (zx a):=eI.of λi=>⟨_,mj a i⟩
def NQ(a:List Int):nu (zx a)=ps a:=PS.ext λi=>by show(zx a i).num=_;rw[mj];rfl
def aog{a:List Int}(h:can a):cO (a.map λx:Int=>(x:Rat)):=by
 rcases h with h|h
 ·subst h;exact .inl ae
 ·right;rw[dM];intro e;have h2:=mj a (a.length-1);rw[show zx a (a.length-1)=0 from e]at h2;exact h (WC.1 h2.symm)
def mT{a:List Int}(h:can a):sz (zx a)=a.length:=by rw[zx,dK (aog h),dM]
def bT.can{a:List Int}(h:bT a):can a:= .inr (by rw[h.2];decide)
def ou{a:List Int}(h:bT a):Mo (zx a):=by rw[Mo,mT (bT.can h),mj,h.2];rfl
def aoh{a b:List Int}(ha:can a)(hb:can b)(h:zx a=zx b):a=b:=by
 have hg:∀i,a.getD i 0=b.getD i 0:=λi=>by
  have e:zx a i=zx b i:=by rw[h]
  rw[mj,mj]at e;exact DK.1 e
 refine xE ?_ λj _=>hg j
 have h1:=mT ha;rw[h,mT hb]at h1;exact h1.symm
def NR{A:Rx}(h:eI A):∃a,can a∧zx a=A:=by
 obtain⟨a,ha,rfl⟩:=kI A;have e:∀i,(a.map Rat.num).getD i 0=(a.getD i 0).num:=λi=>by rw[aU,kc,aU];cases a[i]? <;>rfl
 refine⟨a.map Rat.num,?_,ext λi=>?_⟩
 ·rcases ha with ha|ha
  ·subst ha;exact .inl ae
  ·right;rw[dM,e];exact λh0=>ha (Rat.num_eq_zero.1 h0)
 ·rw[mj,e];exact(h i).symm
def NS{a:List Int}(h:can a)(hm:Mo (zx a)):bT a:=by have h1:=hm;rw[Mo,mT h,mj]at h1;refine⟨λe=>?_,DK.1 (h1.trans Rat.intCast_one.symm)⟩;subst e;exact hm.ne (show zx []=0 from xC)
def NT{a b c:List Int}(h:zx a*zx b=zx c):ps a*ps b=ps c:=by rw[←NQ,←NQ,←Ny (CZ a) (CZ b),h,NQ]
def y7(A:PS){n:Nat}(h:∀i,n≤i→A i=0):Rx:=⟨λi=>(A i:Rat),n,λi hi=>by rw[h i hi];rfl⟩
def NU(A:PS){n:Nat}(h:∀i,n≤i→A i=0):eI (y7 A h):=λ_=>rfl
def NV(A:PS){n:Nat}(h:∀i,n≤i→A i=0):nu (y7 A h)=A:=rfl
def aoi{A B:Rx}(hA:eI A)(hB:eI B)(h:nu A=nu B):A=B:=ext λi=>by rw[hA.at,hB.at,h]
def ade{A B:Rx}(hA:eI A)(hB:eI B):eI (A+B)∧nu (A+B)=nu A+nu B:=by
 have e:∀i,(A+B) i=(((nu A+nu B) i:Int):Rat):=λi=>by rw[fP,hA.at,hB.at,←Rat.intCast_add];rfl
 exact⟨eI.of λi=>⟨_,e i⟩,PS.ext λi=>by show((A+B) i).num=_;rw[e];rfl⟩
def Uw(a:List Int):eI (bG (zx a))∧nu (bG (zx a))=r9 (ps a):=by
 have e:∀i,bG (zx a) i=((r9 (ps a) i:Int):Rat):=λi=>by rw[sn,mj];show _=((((i:Int)+1)*ps a (i+1):Int):Rat);rw[jz];rfl
 exact⟨eI.of λi=>⟨_,e i⟩,PS.ext λi=>by show(bG (zx a) i).num=_;rw[e];rfl⟩
def aoj{A:List Int}{n:Nat}(hl:A.length=n+2)(hm:bT A)(oZ:Co (zx A) (bG (zx A))){B:Nat}(h1B:1≤B)(hB:∀i,(A.getD i 0).natAbs≤B)(aok:(2*((2*n+2)*((n+1)*B)))^(2*n+1)≤NC):
  ∃p∈gJ,Fx.Co (Fx.fx A:Fx (p:Nat)) (Fx.bG (Fx.fx A)):=by
 have hz:∀i,n+1<i→ps A i=0:=λi hi=>dH A af
 have hdz:∀i,n<i→r9 (ps A) i=0:=λi hi=>by show _*ps A (i+1)=0;rw[hz (i+1) af,et]
 have hBB:B≤(n+1)*B:=by have:=eJ B (show 1≤n+1 by omega);omega
 obtain⟨u,v,D,u1,v1,e,hD,aR⟩:=ani (B:=(n+1)*B) af hz hdz (λi=>dF (hB i) hBB) (λi=>by
  by_cases hi:n<i
  ·rw[hdz i hi];exact bK _
  ·show(((i:Int)+1)*ps A (i+1)).natAbs≤_;rw[uZ];exact my af (hB _))
 have hF:=ou hm
 have hFs:sz (zx A)=n+2:=by rw[mT (bT.can hm),hl]
 have Ux:D≠0:=λh0=>by
  subst h0;have eU:y7 u u1*zx A+y7 v v1*bG (zx A)=0:=by have i1:=(NU u u1).mul (CZ A);have i2:=(NU v v1).mul (Uw A).1;refine aoi (ade i1 i2).1 (λ_=>rfl) ?_;rw[(ade i1 i2).2,Ny (NU u u1) (CZ A),Ny (NU v v1) (Uw A).1,NV,NV,NQ,(Uw A).2,e,PS.mK];rfl
  have d1:zx A∣y7 v v1*bG (zx A):=by refine xk ?_ (dvd_mul_left (zx A) (y7 u u1));rw[eU];exact dvd_zero _
  rw[mul_comm]at d1;have d2:=oZ.dvd d1;have v0:y7 v v1=0:=vK d2 (by have:=vT (A:=y7 v v1) (n:=n+1) (λi hi=>by show((v i:Int):Rat)=0;rw[v1 i hi];rfl);omega);rw[v0,zero_mul,add_zero]at eU;have u0:y7 u u1=0:=gE λhu=>oX hu hF.ne eU
  refine aR ae ?_ ?_
  ·rw[←NV v v1,v0];rfl
  ·rw[←NV u u1,u0];rfl
 obtain⟨p,hp,fK⟩:=ann Ux (dF hD aok)
 refine⟨p,hp,?_⟩
 have H:bI p:=⟨NA hp,by have:=(vY hp).2;omega⟩
 have pu:aY p u:=⟨n,λi hi=>by rw[u1 i hi,dk]⟩
 have pv:aY p v:=⟨n+1,λi hi=>by rw[v1 i hi,dk]⟩
 obtain⟨d,hd⟩:=Fx.pT H (c:=D) (λe0=>fK (Dy e0))
 refine⟨Fx.K d*Fx.mk u pu,Fx.K d*Fx.mk v pv,?_⟩
 have key:(Fx.mk u pu*Fx.fx A+Fx.mk v pv*Fx.bG (Fx.fx A):Fx p)=Fx.K D:=Fx.mk_congr e ((pu.mul (aY.ps p A)).add (pv.mul (yP (aY.ps p A)))) (aY.K p D)
 rw[Fx.mul_assoc,Fx.mul_assoc,←Fx.mul_add,key]
 exact hd
end Rx
end Go.El
namespace Go.El
open Go Go.Proofs
def gy.mul{p:Int}{A B C:PS}(h:gy p A C)(k:gy p B C)(hA:aY p A):gy p (A*B) C:=by
 obtain⟨U,V,hU,hV,e⟩:=h;obtain⟨U',V',Uy,hV',e'⟩:=k;refine⟨U*U',U*A*V'+V,hU.mul Uy,((hU.mul hA).mul hV').add hV,?_⟩;have h1:U*U'*(A*B)+(U*A*V'+V)*C=U*A*(U'*B+V'*C)+V*C:=by simp only[PS.mul_add,PS.add_mul];ac_rfl
 rw[h1];exact(((e'.vH (U*A)).oW (V*C)).trans (Cg.of_eq (by rw[PS.mul_one]))).trans e
def gy.one{p:Int}(A:PS):gy p 1 A:=⟨1,0,aY.one p,aY.zero p,Cg.of_eq (by rw[PS.mul_one,PS.zero_mul,PS.add_zero])⟩
def adg{p:Nat}(hp:dN p)(dp:p≤2147483648){l:Nat→List Int}{r i:Nat}(hi:i<r)(hc:∀j,j<r→bX p (l j))(aR:l i≠[])(adh:∀j,j<r→j≠i→gy p (ps (l j)) (ps (l i))):∀j,j≤r→gy p (ps (dS p l i j)) (ps (l i))
 |0,_=>by rw[dS,Cr];exact gy.one _
 |j+1,hj=>by
  have ih:=adg hp dp hi hc aR adh j af;have cL:(0:Int)<(p:Int):=by have:=hp.1;omega
  rw[dS];split
  ·exact ih
  ·rename_i e;obtain⟨d1,d2,d3,d4,d5,d6⟩:=lD hp dp (nK cL (dS p l i j) (l j)).1 (hc i hi) aR;have h1:=(ih.mul (adh j af e) (aY.ps _ _)).cg (xh (dS p l i j) (l j) p).symm (Cg.refl _ _);exact(h1.step (aY.ps _ _) d1).symm
def fE(F:Nat→PS):Nat→PS
 |0=>1
 |j+1=>fE F j*F j
def sS(F C:Nat→PS):Nat→PS
 |0=>0
 |j+1=>sS F C j*F j+fE F j*C j
def uJ(F:Nat→PS)(i:Nat):Nat→PS
 |0=>1
 |j+1=>if j=i then uJ F i j else uJ F i j*F j
def NW{m:Int}{F G:Nat→PS}:∀r,(∀i,i<r→Cg m (F i) (G i))→Cg m (fE F r) (fE G r)
 |0,_=>Cg.refl _ _
 |r+1,h=>(NW r λi hi=>h i af).mul (h r af)
def adi{m:Int}{F G C:Nat→PS}:∀r,(∀i,i<r→Cg m (F i) (G i))→Cg m (sS F C r) (sS G C r)
 |0,_=>Cg.refl _ _
 |r+1,h=>((adi r λi hi=>h i af).mul (h r af)).add ((NW r λi hi=>h i af).qR _)
def NX{p:Int}{F:Nat→PS}:∀r,(∀i,i<r→aY p (F i))→aY p (fE F r)
 |0,_=>aY.one p
 |r+1,h=>(NX r λi hi=>h i af).mul (h r af)
def adk{p:Int}{F C:Nat→PS}:∀r,(∀i,i<r→aY p (F i)∧aY p (C i))→aY p (sS F C r)
 |0,_=>aY.zero p
 |r+1,h=>((adk r λi hi=>h i af).mul (h r af).1).add ((NX r λi hi=>(h i af).1).mul (h r af).2)
def Uz{p:Int}{F:Nat→PS}{i:Nat}:∀r,(∀j,j<r→aY p (F j))→aY p (uJ F i r)
 |0,_=>aY.one p
 |r+1,h=>by
  rw[uJ];split
  ·exact Uz r λi hi=>h i af
  ·exact(Uz r λi hi=>h i af).mul (h r af)
def adl{F:Nat→PS}{i:Nat}:∀j,j≤i→uJ F i j=fE F j
 |0,_=>rfl
 |j+1,h=>by rw[uJ,aq af,fE,adl j af]
def Cm(p:Int)(B A A':PS):Prop:=∃W,aY p W∧Cg p A (A'+W*B)
def Cm.of{p:Int}{B A A':PS}(h:Cg p A A'):Cm p B A A':=⟨0,aY.zero p,by rw[PS.zero_mul,PS.add_zero];exact h⟩
def Cm.trans{p:Int}{B A A' A'':PS}(h:Cm p B A A')(k:Cm p B A' A''):Cm p B A A'':=by obtain⟨W,hW,e⟩:=h;obtain⟨V,hV,f⟩:=k;refine⟨V+W,hV.add hW,e.trans ?_⟩;rw[PS.add_mul,←PS.add_assoc];exact f.oW _
def Cm.symm{p:Int}{B A A':PS}(h:Cm p B A A'):Cm p B A' A:=by obtain⟨W,hW,e⟩:=h;refine⟨-W,hW.neg,?_⟩;refine Cg.trans (Cg.of_eq ?_) (e.symm.oW _);rw[PS.neg_mul,PS.add_assoc,PS.add_neg,PS.add_zero]
def Cm.mul{p:Int}{B A A' D D':PS}(hB:aY p B)(hA:aY p A')(hD:aY p D')(h:Cm p B A A')(k:Cm p B D D'):Cm p B (A*D) (A'*D'):=by obtain⟨W,hW,e⟩:=h;obtain⟨V,hV,f⟩:=k;refine⟨A'*V+W*D'+W*V*B,((hA.mul hV).add (hW.mul hD)).add ((hW.mul hV).mul hB),(e.mul f).trans (Cg.of_eq ?_)⟩;simp only[PS.add_mul,PS.mul_add];ac_rfl
def ado{p:Int}{F:Nat→PS}{i:Nat}:∀j,i<j→(∀q,q<j→aY p (F q))→∃V,aY p V∧fE F j=V*F i
 |0,h,_=>by omega
 |j+1,h,hF=>by
  by_cases e:i=j
  ·subst e;exact⟨fE F i,NX i λq hq=>hF q af,ae⟩
  ·obtain⟨V,hV,e1⟩:=ado (F:=F) (i:=i) j af λq hq=>hF q af
   exact⟨V*F j,hV.mul (hF j af),by rw[fE,e1];ac_rfl⟩
def adp{p:Int}{F C:Nat→PS}{i:Nat}:∀j,i<j→(∀q,q<j→aY p (F q)∧aY p (C q))→Cm p (F i) (sS F C j) (uJ F i j*C i)
 |0,h,_=>by omega
 |j+1,h,hF=>by
  by_cases e:i=j
  ·subst e;refine⟨sS F C i,adk i λq hq=>hF q af,Cg.of_eq ?_⟩;rw[sS,uJ,aw ae,adl i (bD _)];ac_rfl
  ·obtain⟨W,hW,e1⟩:=adp (C:=C) j (show i<j by omega) λq hq=>hF q af
   obtain⟨V,hV,e2⟩:=ado (p:=p) j (show i<j by omega) λq hq=>(hF q af).1
   refine⟨W*F j+V*C j,(hW.mul (hF j af).1).add (hV.mul (hF j af).2),?_⟩;rw[sS,uJ,aq af,e2];refine((e1.qR (F j)).oW _).trans (Cg.of_eq ?_);simp only[PS.add_mul];ac_rfl
def crt{p:Int}{F:Nat→PS}{D:PS}{r:Nat}(hF:∀i,i<r→aY p (F i))(hd:∀i,i<r→∃W,aY p W∧Cg p D (W*F i))(NY:∀i,i<r→gy p (fE F i) (F i))(hD:aY p D):∀j,j≤r→∃W,aY p W∧Cg p D (W*fE F j)
 |0,_=>⟨D,hD,by rw[fE,PS.mul_one];exact Cg.refl _ _⟩
 |j+1,hj=>by
  obtain⟨W,hW,e1⟩:=crt hF hd NY hD j af;obtain⟨V,hV,e2⟩:=hd j af;obtain⟨U,U',hU,Uy,e3⟩:=NY j af;refine⟨U*V+U'*W,(hU.mul hV).add (Uy.mul hW),?_⟩;have h1:Cg p D ((U*fE F j+U'*F j)*D):=by have:=(e3.qR D).symm;rwa[PS.one_mul]at this
  refine h1.trans ?_;rw[PS.add_mul,fE];refine((e2.vH (U*fE F j)).add (e1.vH (U'*F j))).trans (Cg.of_eq ?_);rw[PS.add_mul];ac_rfl
def ov(d:Nat→Nat):Nat→Nat
 |0=>0
 |j+1=>ov d j+d j
def NZ{p:Int}{F:Nat→PS}{d:Nat→Nat}:∀r,(∀i,i<r→Dl p (d i+1) (F i))→Dl p (ov d r+1) (fE F r)
 |0,_=>Mc p
 |r+1,h=>((NZ r λi hi=>h i af).mul (h r af))
def UA{p:Int}{F:Nat→PS}{d:Nat→Nat}:∀r,(∀i,i<r→Dl p (d i+1) (F i)∧F i (d i)%p=1%p)→fE F r (ov d r)%p=1%p
 |0,_=>rfl
 |r+1,h=>by rw[fE,ov,(NZ r λi hi=>(h i af).1).top (h r af).1,mY,UA r λi hi=>h i af,(h r af).2,←mY,ns]
def adr{p:Int}{F C:Nat→PS}{d:Nat→Nat}:∀r,(∀i,i<r→Dl p (d i+1) (F i)∧Dl p (d i) (C i))→Dl p (ov d r) (sS F C r)
 |0,_=>Cl p 0
 |r+1,h=>by refine Dl.add ?_ ((NZ r λi hi=>(h i af).1).mul (h r af).2);have:=(h r af).1.mul (adr r λi hi=>h i af);rw[PS.mul_comm,KH]at this;exact this
def aon{p:Nat}(hp:dN p){F:Nat→PS}{d:Nat→Nat}{D:PS}{r:Nat}(hF:∀i,i<r→Dl p (d i+1) (F i)∧F i (d i)%(p:Int)=1%(p:Int))(hd:∀i,i<r→∃W,aY p W∧Cg p D (W*F i))(NY:∀i,i<r→gy p (fE F i) (F i))(hD:Dl p (ov d r) D):Cg p D 0:=by
 have h2:=hp.1;obtain⟨W,⟨n,hW⟩,e⟩:=crt (λi hi=>⟨_,(hF i hi).1⟩) hd NY ⟨_,hD⟩ r (bD _);have h1:fE F r (ov d r)%(p:Int)≠0:=by rw[UA r hF,iZ ak af];decide
 have h3:=ZM hp hW (NZ r λi hi=>(hF i hi).1) h1 (hD.cg e);refine e.trans ((h3.qR _).trans (Cg.of_eq (PS.zero_mul _)))
def ads{q p:Int}(TM:p∣q){F C:Nat→PS}:∀r,Cg (q*p) (fE (λi=>F i+PS.K q*C i) r) (fE F r+PS.K q*sS F C r)
 |0=>by rw[fE,sS,PS.mul_zero,PS.add_zero];exact Cg.refl _ _
 |r+1=>by
  have ih:=ads TM (F:=F) (C:=C) r;obtain⟨t,ht⟩:=TM;rw[fE];refine(ih.qR _).trans ⟨PS.K t*(sS F C r*C r),?_⟩;have hqq:PS.K q*PS.K q=PS.K (q*p)*PS.K t:=by rw[←PS.tk,←PS.tk,ke,←ht]
  have e1:(fE F r+PS.K q*sS F C r)*(F r+PS.K q*C r)=fE F r*F r+PS.K q*(sS F C r*F r+fE F r*C r)+PS.K q*PS.K q*(sS F C r*C r):=by simp only[PS.add_mul,PS.mul_add];ac_rfl
  rw[e1,hqq,fE,sS,PS.mul_assoc (PS.K (q*p))]
def adt(F c:List Int)(q:Int)(h:c.length≤F.length):ps (uG F c q)=ps F+PS.K q*ps c:=PS.ext λi=>by
 rw[PS.fP,PS.gw,dV,dV,dV];by_cases e:i<F.length
 ·rw[uG,yZ _ _ _ _ _ e,aw e]
 ·rw[dH _ (by rw[uG,uH];omega),dH F af,dH c af,et,nq]
def adu(F:Nat→List Int)(m:Int):∀j,Cg m (ps (fD F m j)) (fE (λi=>ps (F i)) j)
 |0=>by rw[fD,Cr];exact Cg.refl _ _
 |j+1=>(Uk (fD F m j) (F j) m).trans ((adu F m j).qR _)
def UB(F:Nat→List Int)(m:Int):∀j,(∀i,i<j→1≤(F i).length)→(fD F m j).length=ov (λi=>(F i).length-1) j+1
 |0,_=>rfl
 |j+1,h=>by have h1:=h j (fT j);rw[fD,CU,UB F m j λi hi=>h i af,ov];omega
def adv{d e:Nat→Nat}:∀r,(∀i,i<r→d i=e i)→ov d r=ov e r
 |0,_=>rfl
 |r+1,h=>by rw[ov,ov,adv r λi hi=>h i af,h r af]
structure v7(p:Nat)(a:List Int)(l:Nat→List Int)(r:Nat):Prop where
 H:tD p l r
 mn:∀i,i<r→bT (l i)
 xj:∀i,i<r→gy p (fE (λi=>ps (l i)) i) (ps (l i))
 am:bT a
 qy:a.length=(fD l p r).length
 ap:Cg p (ps a) (fE (λi=>ps (l i)) r)
section
variable{p:Nat}{a:List Int}{l:Nat→List Int}{r:Nat}(h:v7 p a l r)
include h
def v7.y5{i:Nat}(hi:i<r):∀j,j≤r→Cm p (ps (l i)) (ps (dS p l i j)) (uJ (λi=>ps (l i)) i j)
 |0,_=>by rw[dS,Cr];exact Cm.of (Cg.refl _ _)
 |j+1,hj=>by
  have ih:=v7.y5 hi j af;have cL:(0:Int)<(p:Int):=by have:=h.H.hp.1;omega
  rw[dS,uJ];split
  ·exact ih
  ·obtain⟨d1,_⟩:=lD h.H.hp h.H.dp (nK cL (dS p l i j) (l j)).1 (h.H.c i hi) (h.H.ne hi);have h1:Cm p (ps (l i)) (ps (eD (dS p l i j) (l j) p)) (ps (bM (eD (dS p l i j) (l j) p) (l i) p).2):=⟨_,aY.ps _ _,d1.trans (Cg.of_eq (PS.add_comm _ _))⟩;refine h1.symm.trans ((Cm.of (xh _ _ _)).trans ?_);exact Cm.mul (aY.ps _ _) (Uz j λq _=>aY.ps _ _) (aY.ps _ _) ih (Cm.of (Cg.refl _ _))
def v7.step{q:Int}(hq:0<q)(FY:(p:Int)∣q){F:Nat→List Int}(hl:∀i,i<r→(F i).length=(l i).length)(hF:∀i,i<r→Cg p (ps (F i)) (ps (l i)))(ht:∀i,i<r→(F i).getD ((l i).length-1) 0=1)(ha:Cg q (ps a) (fE (λi=>ps (F i)) r)):
  Cg (q*p) (ps a) (fE (λi=>ps (uG (F i) (nQ p a l r q F i) q)) r):=by
 have hp:=h.H.hp
 have h2:=hp.1
 have cL:(0:Int)<(p:Int):=af
 have Jq:=λi hi=>h.H.NH (i:=i) hi a q F
 have LO:a.length=ov (λi=>(l i).length-1) r+1:=by rw[h.qy,UB l p r λi hi=>by have:=h.H.l2 i hi;omega]
 obtain⟨U,hU⟩:=ha
 have TB:(fD F (q*p) r).length=a.length:=by rw[h.qy];exact Uo r hl
 have hPc:=adu F (q*p) r
 have hE:∀i,q*U i%(q*(p:Int))=(a.getD i 0-(fD F (q*p) r).getD i 0)%(q*(p:Int)):=λi=>by
  have e1:a.getD i 0=fE (λi=>ps (F i)) r i+q*U i:=by have:=congrFun hU i;rw[PS.fP,PS.gw]at this;exact this
  rw[e1];obtain⟨t,vQ⟩:=hPc.dvd i;have vQ:(fD F (q*p) r).getD i 0-fE (λi=>ps (F i)) r i=q*(p:Int)*t:=vQ;rw[show fE (λi=>ps (F i)) r i+q*U i-(fD F (q*p) r).getD i 0=q*U i+q*(p:Int)*(-t)by rw[Int.mul_neg];omega,Kp]
 have LY:∀i,(a.getD i 0-(fD F (q*p) r).getD i 0)%(q*(p:Int))/q=U i%p:=λi=>by rw[←hE i,Int.mul_emod_mul_of_pos _ _ hq,Int.mul_ediv_cancel_left _ af]
 have xd:∀i,(a.getD i 0-(fD F (q*p) r).getD i 0)%(q*(p:Int))=0→U i%(p:Int)=0:=λi hi=>by have:=LY i;rw[hi,Int.zero_ediv]at this;exact this.symm
 have H7:Cg p (ps (AU a (fD F (q*p) r) (q*p) q)) U:=Cg.of λi=>by
  rw[dV];by_cases e:i<a.length
  ·rw[AU,FR _ _ e,LY i,k8]
  ·rw[dH _ (by simp[AU];omega),dk,xd i];rw[dH a af,dH (fD F (q*p) r) af,KJ,dk]
 have NO:Cg p (ps (mi p a r q F)) U:=by unfold mi;rw[Cq];exact(Mi p _).trans H7
 have hUd:Dl p (ov (λi=>(l i).length-1) r) U:=λi hi=>xd i (by
  by_cases e:i<a.length
  ·have e2:i=a.length-1:=by omega
   have h3:=hPc.at i;have h4:=UA (p:=q*(p:Int)) (F:=λi=>ps (F i)) (d:=λi=>(l i).length-1) r λj hj=>⟨by
    have:=kl (q*(p:Int)) (F j);rw[hl j hj]at this;exact this.le af,by
    show(F j).getD ((l j).length-1) 0%_=_;rw[ht j hj]⟩
   rw[show ov (λi=>(l i).length-1) r=i by omega]at h4;have h5:(fD F (q*p) r).getD i 0%(q*(p:Int))=1%(q*(p:Int)):=h3.trans h4;rw[e2]at h5⊢;rw[h.am.2,xZ,h5,←xZ,KJ,dk]
  ·rw[dH a af,dH (fD F (q*p) r) af,KJ,dk])
 have Io:Cg p (sS (λi=>ps (F i)) (λi=>ps (nQ p a l r q F i)) r) U:=by
  refine(adi r hF).trans (Cg.trans ?_ NO);have hz:Cg p (sS (λi=>ps (l i)) (λi=>ps (nQ p a l r q F i)) r-ps (mi p a r q F)) 0:=by
   refine aon hp (F:=λi=>ps (l i)) (d:=λi=>(l i).length-1) (r:=r) (λi hi=>⟨(kl p (l i)).le af,?_⟩) (λi hi=>?_) h.xj (Dl.sub (adr r λi hi=>⟨(kl p (l i)).le af,(kl p _).le (Jq i hi).2.2.2⟩) (hUd.cg NO.symm))
   ·show(l i).getD ((l i).length-1) 0%_=_;rw[(h.mn i hi).2]
   ·obtain⟨_,_,W,hW,hinv⟩:=h.H.inv hi;obtain⟨d1,_⟩:=lD hp h.H.dp (nK cL (mi p a r q F) (kV p (dS p l i r) (l i))).1 (h.H.c i hi) (h.H.ne hi);have c1:Cm p (ps (l i)) (ps (eD (mi p a r q F) (kV p (dS p l i r) (l i)) p)) (ps (nQ p a l r q F i)):=⟨_,aY.ps _ _,d1.trans (Cg.of_eq (PS.add_comm _ _))⟩;have c2:Cm p (ps (l i)) (ps (nQ p a l r q F i)) (ps (mi p a r q F)*ps (kV p (dS p l i r) (l i))):=c1.symm.trans (Cm.of (xh _ _ _));have c3:=adp (p:=(p:Int)) (F:=λi=>ps (l i)) (C:=λi=>ps (nQ p a l r q F i)) (i:=i) r hi λq hq=>⟨aY.ps _ _,aY.ps _ _⟩
    have c4:Cm p (ps (l i)) (uJ (λi=>ps (l i)) i r*ps (nQ p a l r q F i)) (ps (dS p l i r)*(ps (mi p a r q F)*ps (kV p (dS p l i r) (l i)))):=Cm.mul (aY.ps _ _) (aY.ps _ _) ((aY.ps _ _).mul (aY.ps _ _)) (h.y5 hi r (bD _)).symm c2;have c5:Cm p (ps (l i)) (ps (kV p (dS p l i r) (l i))*ps (dS p l i r)) 1:=⟨W,hW,hinv⟩;have c6:Cm p (ps (l i)) (ps (mi p a r q F)*(ps (kV p (dS p l i r) (l i))*ps (dS p l i r))) (ps (mi p a r q F)*1):=Cm.mul (aY.ps _ _) (aY.ps _ _) (aY.one _) (Cm.of (Cg.refl _ _)) c5;rw[PS.mul_one,show ps (mi p a r q F)*(ps (kV p (dS p l i r) (l i))*ps (dS p l i r))=ps (dS p l i r)*(ps (mi p a r q F)*ps (kV p (dS p l i r) (l i)))by ac_rfl]at c6;obtain⟨V,hV,e⟩:=(c3.trans c4).trans c6;refine⟨V,hV,(e.sub (Cg.refl _ _)).trans (Cg.of_eq ?_)⟩;rw[PS.add_comm,PS.add_sub_cancel]
  have:=hz.oW (ps (mi p a r q F));rwa[PS.sub_add_cancel,PS.zero_add]at this
 have Az:Cg (q*p) (fE (λi=>ps (uG (F i) (nQ p a l r q F i) q)) r) (fE (λi=>ps (F i)+PS.K q*ps (nQ p a l r q F i)) r):=NW r λi hi=>Cg.of_eq (adt _ _ _ (by have:=(Jq i hi).2.2.2;have:=hl i hi;omega))
 refine Cg.symm (Az.trans ((ads FY r).trans ?_))
 rw[hU]
 exact(Io.up).Sb _
def v7.all:∀s,(∀i,i<r→Cg p (ps (cX p a l r s i)) (ps (l i)))∧(∀i,i<r→(cX p a l r s i).getD ((l i).length-1) 0=1)∧Cg ((p:Int)^(s+1)) (ps a) (fE (λi=>ps (cX p a l r s i)) r)
 |0=>⟨λi _=>Cg.refl _ _,λi hi=>(h.mn i hi).2,by rw[GM];exact h.ap⟩
 |s+1=>by
  obtain⟨h1,h3,h4⟩:=v7.all s;have cL:(0:Int)<(p:Int):=by have:=h.H.hp.1;omega
  have hq:(0:Int)<(p:Int)^(s+1):=sI cL;have FY:(p:Int)∣(p:Int)^(s+1):=⟨(p:Int)^s,by rw[fU,fh]⟩;have dh:=λi hi=>(h.H.st a s i hi).1
  have Jq:=λi hi=>h.H.NH (i:=i) hi a ((p:Int)^(s+1)) (cX p a l r s)
  refine⟨λi hi=>?_,λi hi=>?_,?_⟩
  ·have h5:=dh i hi;have h6:=(Jq i hi).2.2.2;show Cg p (ps (uG _ _ _)) _;rw[adt _ _ _ af];obtain⟨t,ht⟩:=FY;refine Cg.trans ⟨PS.K t*ps (nQ p a l r ((p:Int)^(s+1)) (cX p a l r s) i),?_⟩ (h1 i hi);rw[ht,PS.tk,PS.mul_assoc]
  ·have h5:=dh i hi;have h6:=(Jq i hi).2.2.2;have h7:=h.H.l2 i hi;show(uG _ _ _).getD _ 0=1;rw[uG,yZ _ _ _ _ _ af,aw af,h3 i hi,dH (nQ p a l r ((p:Int)^(s+1)) (cX p a l r s) i) af,et,nq]
  ·rw[fU (p:Int) (s+1)];exact h.step hq FY dh h1 h3 h4
end
def aoq{a b m:Int}(h:a%m=b%m):ft a m=ft b m:=by unfold ft;rw[h]
def UC{m:Int}(hm:0<m)(a:Int):ft a m%m=a%m:=by
 unfold ft;split
 ·rw[xZ,k8,Int.emod_self,DL,k8]
 ·exact k8 _ _
def aor{m:Int}(hm:1<m):ft 1 m=1:=by unfold ft;rw[iZ ak hm,aq af]
def aos(m:Int)(hm:0<m):ft 0 m=0:=by unfold ft;rw[dk,aq af]
def C0(F:List Int){m:Int}(hm:0<m)(i:Nat):(F.map (ft · m)).getD i 0=ft (F.getD i 0) m:=getD_map (f:=(ft · m)) (aos m hm) F i
def UD{F:List Int}{m:Int}(hm:1<m)(h:bT F):bT (F.map (ft · m)):=by refine⟨λe=>h.1 (List.map_eq_nil_iff.1 e),?_⟩;rw[dM,C0 F af,h.2];exact aor hm
def aot{a b m n:Int}(h:a%m=b%m)(hd:n∣m):a%n=b%n:=by obtain⟨t,rfl⟩:=hd;rw[←xR a (WW n t),h,xR b (WW n t)]
section
variable{p:Nat}{a:List Int}{l:Nat→List Int}{r:Nat}(h:v7 p a l r)
include h
def v7.pw(s:Nat):(1:Int)<(p:Int)^(s+1):=by have h2:=h.H.hp.1;have h1:(0:Int)<(p:Int)^s:=sI af;rw[fU];have:=jx (show(2:Int)≤(p:Int)by omega) (Bs h1);omega
def v7.one(s:Nat){i:Nat}(hi:i<r):(cX p a l r s i).length=(l i).length∧bT (cX p a l r s i):=by obtain⟨_,h2,_⟩:=h.all s;have hl:=(h.H.st a s i hi).1;refine⟨hl,λe=>?_,by rw[hl];exact h2 i hi⟩;have:=h.H.l2 i hi;rw[e]at hl;simp at hl;omega
def v7.image(s:Nat){i:Nat}(hi:i<r):a7 (md p ((cX p a l r s i).map (ft · ((p:Int)^(s+1)))))=l i:=by
 obtain⟨h1,_,_⟩:=h.all s;have h2:=h.H.hp.1;have hq:=h.pw s;refine Sn (nJ af (Cp af _)) (h.H.c i hi) ?_;rw[Cq];refine(Mi p _).trans (Cg.trans ?_ (h1 i hi));refine Cg.of λj=>?_
 rw[dV,dV,C0 _ af];exact aot (UC af _) ⟨(p:Int)^s,by rw[fU,fh]⟩
end
end Go.El
namespace Go.El
open Fx
def adx{p:Nat}(H:bI p){G:PS}{d:Nat}(h:aY p G)(hd:G d=1)(hz:∀i,d<i→G i=0):sz (mk G h)=d+1:=by
 have h1:sz (mk G h)≤d+1:=yN H.pos h λi hi=>by rw[hz i af,dk]
 obtain⟨a,ha,e⟩:=kI H.pos (mk G h);have h2:=(mk_eq.1 (e:mk (ps a) (aY.ps p a)=mk G h)).at d;rw[←e,dj ha]at h1⊢;by_cases hl:a.length≤d
 ·rw[dV,dH a hl,hd,dk,H.one]at h2;cases h2
 ·omega
def UE{p:Int}{A:PS}{n:Nat}(h:∀i,n≤i→A i=0):aY p A:=⟨n,λi hi=>by rw[h i hi,dk]⟩
structure MD(d:Nat)(G:PS):Prop where
 one:G d=1
 z:∀i,d<i→G i=0
def MD.N0{d:Nat}{G:PS}(h:MD d G)(p:Int):aY p G:=UE (n:=d+1) λi hi=>h.z i af
def ady{p:Nat}(H:bI p){G G' K K':PS}{d e:Nat}(hG:MD d G)(UF:MD d G')(hK:MD e K)(UG:MD e K')(oZ:Co (mk G (hG.N0 p)) (mk K (hK.N0 p)))(c1:Cg p G G')(c2:Cg p K K'):∀j,1≤j→Cg ((p:Int)^j) (G*K) (G'*K')→Cg ((p:Int)^j) G G'∧Cg ((p:Int)^j) K K'
 |0,h,_=>absurd h af
 |1,_,_=>by rw[fU,wJ,ja];exact⟨c1,c2⟩
 |j+1+1,_,h=>by
  have hp:=H.hp.1;have vv:Cg ((p:Int)^(j+1)) (G*K) (G'*K'):=Cg.of λi=>by have h1:=xR ((G*K) i) (show((p:Int)^(j+1))∣(p:Int)^(j+1+1)from⟨p,fU _ _⟩);have h2:=xR ((G'*K') i) (show((p:Int)^(j+1))∣(p:Int)^(j+1+1)from⟨p,fU _ _⟩);rw[←h1,h.at,h2]
  obtain⟨i1,i2⟩:=ady H hG UF hK UG oZ c1 c2 (j+1) af vv;obtain⟨q,eq⟩:∃q,q=(p:Int)^(j+1):=⟨_,ae⟩;have hq:q≠0:=by rw[eq];exact Int.ne_of_gt (sI af)
  rw[←eq]at i1 i2;rw[fU,←eq]at h⊢;obtain⟨U,eU⟩:=i1.symm;obtain⟨V,eV⟩:=i2.symm;have zU:∀i,d≤i→U i=0:=λi hi=>by
   have h1:G' i=G i+q*U i:=by rw[eU,PS.fP,PS.gw]
   have h2:G' i=G i:=by
    by_cases e:i=d
    ·subst e;rw[hG.one,UF.one]
    ·rw[hG.z i af,UF.z i af]
   have h3:q*U i=0:=af;exact(Int.mul_eq_zero.1 h3).resolve_left hq
  have zV:∀i,e≤i→V i=0:=λi hi=>by
   have h1:K' i=K i+q*V i:=by rw[eV,PS.fP,PS.gw]
   have h2:K' i=K i:=by
    by_cases e1:i=e
    ·subst e1;rw[hK.one,UG.one]
    ·rw[hK.z i af,UG.z i af]
   have h3:q*V i=0:=af;exact(Int.mul_eq_zero.1 h3).resolve_left hq
  have pU:aY p U:=UE zU;have pV:aY p V:=UE zV;have FY:(p:Int)∣q:=by rw[eq,fU];exact Pt _ _
  have key:Cg p (G*V+U*K) 0:=Cg.ZA λi=>by
   have h1:=h.symm.dvd i;have e1:G'*K'=G*K+PS.K q*(G*V+U*K)+PS.K q*(PS.K q*(U*V)):=by rw[eU,eV];simp only[PS.mul_add,PS.add_mul];ac_rfl
   rw[e1,PS.fP,PS.fP,PS.gw,PS.gw,PS.gw]at h1;obtain⟨w,hw⟩:=h1;have h2:q*((G*V+U*K) i+q*(U*V) i)=q*(p*w):=by rw[px,←ke q (p:Int) w,←hw];omega
   have h3:=Int.eq_of_mul_eq_mul_left hq h2;obtain⟨z,hz⟩:=FY;refine⟨w-z*(U*V) i,?_⟩;rw[PS.lZ,DL,KN,←h3,hz,ke];omega
  have Jr:=hG.N0 p;have hKp:=hK.N0 p;have e2:mk G Jr*mk V pV+mk U pU*mk K hKp=0:=mk_eq.2 key;have d1:mk G Jr∣mk U pU*mk K hKp:=xk (by rw[e2];exact dvd_zero _) (dvd_mul_right _ _);have sG:sz (mk G Jr)=d+1:=adx H Jr hG.one hG.z;have u0:mk U pU=0:=by
   refine vK H (oZ.dvd (by rw[mul_comm];exact d1)) ?_;have:=yN H.pos pU (n:=d) λi hi=>by rw[zU i hi,dk]
   omega
  rw[u0,zero_mul,add_zero]at e2;have UH:mk G Jr≠0:=λe0=>by rw[e0,kJ H.pos]at sG;omega
  have v0:mk V pV=0:=gE λhv=>oX H UH hv e2
  have fin:∀{A A' W:PS}(hW:aY p W),A'=A+PS.K q*W→mk W hW=0→Cg (q*p) A A':=λ{A A' W} hW hA SL=>Cg.symm (Cg.ZA λi=>by have h1:=(mk_eq.1 (SL:mk W hW=mk 0 (aY.zero p))).dvd i;rw[PS.lZ,DL]at h1;obtain⟨t,ht⟩:=h1;refine⟨t,?_⟩;rw[hA,PS.fP,PS.gw,ht,ke];omega)
  exact⟨fin pU eU u0,fin pV eV v0⟩
def bL(b:Nat→Bool):Nat→List (List Int)→List (List Int)
 |_,[]=>[]
 |i,f::l=>if b i then f::bL b (i+1) l else bL b (i+1) l
def jG(m:Int)(g:List Int):List (List Int)→List Int
 |[]=>g
 |f::l=>jG m (pY g f m) l
def lG:List (List Int)→PS
 |[]=>1
 |f::l=>ps f*lG l
def iW:List (List Int)→Nat
 |[]=>0
 |f::l=>(f.length-1)+iW l
def adA(b:Nat→Bool):∀(l r:List (List Int))(i:Nat),bL b i (l++r)=bL b i l++bL b (i+l.length) r
 |[],r,i=>rfl
 |f::l,r,i=>by rw[mX,bL,bL,adA b l r (i+1),fv,show i+1+l.length=i+(l.length+1)by omega];split<;>rfl
def adB(m:Int):∀(l r:List (List Int))(g:List Int),jG m g (l++r)=jG m (jG m g l) r
 |[],_,_=>rfl
 |f::l,r,g=>adB m l r (pY g f m)
def xF{b:Nat→Bool}{x:List Int}:∀{l:List (List Int)}{i:Nat},x∈bL b i l→x∈l
 |[],_,h=>h
 |f::l,i,h=>by
  rw[bL]at h;split at h
  ·rcases dC.1 h with rfl|h
   ·simp
   ·simp[xF h]
  ·simp[xF h]
def Js{b:Nat→Bool}{R:List Int→List Int→Prop}:∀{l:List (List Int)}{i:Nat},l.Pairwise R→(bL b i l).Pairwise R
 |[],_,h=>h
 |f::l,i,h=>by
  obtain⟨h1,h2⟩:=jW.1 h;rw[bL];split
  ·exact jW.2 ⟨λy hy=>h1 y (xF hy),Js h2⟩
  ·exact Js h2
def UI(b:Nat→Bool):∀(l:List (List Int))(i:Nat),lG (bL b i l)*lG (bL (λi=> !b i) i l)=lG l
 |[],_=>PS.mul_one 1
 |f::l,i=>by
  have ih:=UI b l (i+1);rw[bL,bL];cases b i
  ·simp only[Bool.not_false,cP,mV,cV,lG];rw[←ih];ac_rfl
  ·simp only[Bool.not_true,cP,mV,cV,lG];rw[←ih];ac_rfl
def N1(m:Int):∀(l:List (List Int))(g:List Int),Cg m (ps (jG m g l)) (ps g*lG l)
 |[],g=>Cg.of_eq (PS.mul_one _).symm
 |f::l,g=>by refine(N1 m l (pY g f m)).trans (((Uk g f m).qR _).trans (Cg.of_eq ?_));rw[lG];ac_rfl
def aou{a b:List Int}{m:Int}(hm:1<m)(ha:bT a)(hb:bT b):bT (pY a b m):=by
 have la:=cZ.2 ha.1;have lb:=cZ.2 hb.1;have hl:=CU a b m;have hd:=Cg.trans (Uk a b m) (Cg.refl m _);have h1:=hd.at (a.length-1+(b.length-1));have h2:(ps a*ps b) (a.length-1+(b.length-1))=1:=by
  rw[PS.gW,AT (a:=a.length-1) af λi hi aR=>?_]
  ·rw[show a.length-1+(b.length-1)-(a.length-1)=b.length-1 by omega,dV,dV,ha.2,hb.2];rfl
  ·by_cases e:a.length≤i
   ·rw[dV,dH a e,kO]
   ·rw[dV b,dH b af,et]
 obtain⟨r1,r2⟩:=Up a b (by omega:0<m) (a.length-1+(b.length-1));rw[h2,dV,iZ r1 r2,iZ ak hm]at h1;refine⟨λe=>by rw[e]at hl;simp at hl;omega,?_⟩;rw[hl,show a.length+b.length-1-1=a.length-1+(b.length-1)by omega];exact h1
def AZ{m:Int}(hm:1<m):∀{l:List (List Int)}{g:List Int},bT g→(∀f∈l,bT f)→bT (jG m g l)∧(jG m g l).length=g.length+iW l
 |[],g,hg,_=>⟨hg,ae⟩
 |f::l,g,hg,h=>by
  have hf:=h f be;have lf:=cZ.2 hf.1;have lg:=cZ.2 hg.1;obtain⟨h1,h2⟩:=AZ hm (l:=l) (aou hm hg hf) λx hx=>h x kZ
  refine⟨h1,?_⟩;rw[jG,h2,CU,iW];omega
def C1:bT [1]:=⟨by simp,ae⟩
def bT.FZ{a:List Int}(h:bT a):MD (a.length-1) (ps a):=⟨h.2,λi hi=>dH a af⟩
def gS(m:Int)(l:List (List Int))(b:Nat→Bool):List Int:=(jG m [1] (bL b 0 l)).map (ft · m)
section
variable{p:Nat}
def iG:List (List Int)→Fx p
 |[]=>1
 |f::l=>fx f*iG l
def aov(l:List (List Int)):aY p (lG l):=by
 induction l with
 |nil=>exact aY.one p
 |cons f l ih=>exact(aY.ps p f).mul ih
def C2:∀l:List (List Int),(iG l:Fx p)=mk (lG l) (aov l)
 |[]=>rfl
 |f::l=>by rw[iG,C2 l];rfl
def A0(l:List (List Int))(m:Int)(hm:(p:Int)∣m):(fx (jG m [1] l):Fx p)=iG l:=by rw[C2];refine mk_eq.2 ?_;have h:=N1 m l [1];rw[Cr,PS.one_mul]at h;exact Cg.of λi=>by have h1:=h.at i;rw[←xR _ hm,h1,xR _ hm]
def v8(H:bI p){g:List Int}(h:bT g):sz (fx g:Fx p)=g.length:=by have:=cZ.2 h.1;have h1:=adx H (aY.ps p g) h.FZ.one h.FZ.z;rw[show g.length-1+1=g.length by omega]at h1;exact h1
def adC(H:bI p){g G:List Int}(hg:bT g)(hG:bT G){w:Fx p}(hw:sz w=1)(h:fx g=w*fx G):(fx g:Fx p)=fx G:=by
 have s1:=v8 H hg;have s2:=v8 H hG;have lg:=cZ.2 hg.1;have wne:w≠0:=λe=>by rw[e,kJ H.pos]at hw;omega
 have UH:(fx G:Fx p)≠0:=λe=>by rw[e,kJ H.pos]at s2;have:=cZ.2 hG.1;omega
 have s3:=eH H wne UH;rw[←h]at s3;obtain⟨c,hc,rfl⟩:=E7 H hw;have h1:ps g (g.length-1)%(p:Int)=(PS.K c*ps G) (g.length-1)%(p:Int):=(mk_eq.1 (h:mk (ps g) (aY.ps p g)=mk (PS.K c*ps G) ((aY.K p c).mul (aY.ps p G)))).at (g.length-1);rw[PS.gw,dV,dV,hg.2,show g.length-1=G.length-1 by omega,hG.2,ns]at h1;rw[h,(uy h1.symm:(K c:Fx p)=K 1),l7,one_mul]
def UJ(H:bI p){Z:Fx p}:∀{l:List (List Int)},l.Pairwise (λx y=>Co (fx x:Fx p) (fx y))→(∀f∈l,(fx f:Fx p)∣Z)→(iG l:Fx p)∣Z
 |[],_,_=>⟨Z,(mul_one Z).symm⟩
 |f::l,hp,h=>by
  obtain⟨h1,h2⟩:=jW.1 hp;refine Co.Mw ?_ (h f be) (UJ H h2 λx hx=>h x kZ);have key:∀{l:List (List Int)},(∀y∈l,Co (fx f:Fx p) (fx y))→Co (fx f:Fx p) (iG l):=by
   intro l;induction l with
   |nil=>intro _;exact⟨0,1,by rw[zero_mul,zero_add];exact one_mul 1⟩
   |cons y l ih=>intro h;exact(h y be).mul (ih λz hz=>h z (by simp[hz]))
  exact key h1
def Jt{b:Nat→Bool}{x:List Int}:∀{l:List (List Int)}{i:Nat},x∈bL b i l→∃j,j<l.length∧b (i+j)=true∧l.getD j []=x
 |[],_,h=>by cases h
 |f::l,i,h=>by
  rw[bL]at h;split at h
  ·rename_i hb;rcases dC.1 h with rfl|h
   ·exact⟨0,by simp,hb,ae⟩
   ·obtain⟨j,h1,h2,h3⟩:=Jt h;exact⟨j+1,by simp;omega,by rw[show i+(j+1)=i+1+j by omega];exact h2,h3⟩
  ·obtain⟨j,h1,h2,h3⟩:=Jt h;exact⟨j+1,by simp;omega,by rw[show i+(j+1)=i+1+j by omega];exact h2,h3⟩
def UK{b:Nat→Bool}:∀{l:List (List Int)}{i j:Nat},j<l.length→b (i+j)=true→l.getD j []∈bL b i l
 |[],_,_,h,_=>by simp at h
 |f::l,i,0,_,h=>by rw[bL,aw cq];simp
 |f::l,i,j+1,h,hb=>by
  have:=UK (l:=l) (i:=i+1) (j:=j) (by simp at h;omega) (by rw[show i+1+j=i+(j+1)by omega];exact hb);rw[bL];split
  ·exact wB _ this
  ·exact this
end
def aox{x m:Int}(h:2*(x.natAbs:Int)<m):ft x m=x:=by
 unfold ft;by_cases hx:0≤x
 ·rw[iZ hx af,aq af]
 ·have e:x%m=x+m:=by rw[←Int.add_emod_right,iZ af af]
  rw[e,aw af];omega
end Go.El
namespace Go.El
namespace Rx
def adD{F A B:Rx}(hF:Mo F)(e:F=A*B)(hA:sz A≠1)(hB:sz B≠1):∃u v,Mo u∧Mo v∧F=u*v∧2≤sz u∧2≤sz v:=by
 have a0:A≠0:=λe0=>hF.ne (by rw[e,e0,zero_mul])
 have b0:B≠0:=λe0=>hF.ne (by rw[e,e0,mul_zero])
 obtain⟨c,hc,hm⟩:=T8 a0;have e2:F=(K c⁻¹ *B)*(K c*A):=by have e3:K c⁻¹ *B*(K c*A)=(K c⁻¹ *K c)*(A*B):=kN;rw[e3,pT hc,one_mul,←e]
 have hv:Mo (K c⁻¹ *B):=by rw[e2]at hF;exact hF.CP hm
 have pa:=eP a0;have pb:=eP b0;have s1:=eH (tq hc) a0;have rf:c⁻¹ ≠0:=λe=>by have:=oJ _ hc;rw[e,u6]at this;exact absurd this ak
 have s2:=eH (tq rf) b0;rw[ts hc]at s1;rw[ts rf]at s2;exact⟨K c*A,K c⁻¹ *B,hm,hv,by rw[e2,mul_comm],by omega,by omega⟩
def UL{u v:Rx}(hu:Mo u)(hv:Mo v)(h:eI (u*v)):eI u∧eI v:=by
 obtain⟨a,ha⟩:=Jg u;obtain⟨b,hb⟩:=Jg v;have one:∀A:Rx,K ((1:Nat):Rat)*A=A:=λA=>one_mul A
 have hc:Dn (u*v) 1:=⟨by decide,by rw[one];exact h,λd _=>Nat.one_dvd d⟩;have e:=acw hu hv ha hb hc;have a1:a=1:=Nat.dvd_one.1 ⟨b,e⟩;have b1:b=1:=Nat.dvd_one.1 ⟨a,by rw[ix];exact e⟩;subst a1 b1;have i1:=ha.int;have i2:=hb.int;rw[one]at i1 i2;exact⟨i1,i2⟩
def sx:List (List Int)→Rx
 |[]=>1
 |f::l=>zx f*sx l
end Rx
open Fx
def cA(b:Nat→Bool):Nat→Nat
 |0=>0
 |n+1=>cA b n+(if b n then 1 else 0)
def N2{b c:Nat→Bool}:∀{n:Nat},(∀i,i<n→b i=c i)→cA b n=cA c n
 |0,_=>rfl
 |n+1,h=>by rw[cA,cA,N2 (λi hi=>h i af),h n af]
def adE{b c:Nat→Bool}:∀{n:Nat},(∀i,i<n→b i=true→c i=true)→cA b n≤cA c n
 |0,_=>bD _
 |n+1,h=>by
  have ih:=adE (n:=n) λi hi=>h i af
  have h1:=h n af;rw[cA,cA];cases hb:b n
  ·simp only[mV,cV];omega
  ·rw[h1 hb];simp only[cP];omega
def UM{b c:Nat→Bool}:∀{n:Nat},(∀i,i<n→b i=true→c i=true)→(∃i,i<n∧b i=false∧c i=true)→cA b n<cA c n
 |0,_,⟨i,h,_⟩=>absurd h af
 |n+1,h,⟨i,h1,h2,h3⟩=>by
  rw[cA,cA];by_cases e:i=n
  ·subst e;have:=adE (n:=i) λj hj=>h j af
   rw[h2,h3];simp;omega
  ·have ih:=UM (n:=n) (λj hj=>h j af) ⟨i,by omega,h2,h3⟩;have h4:=h n af;cases hb:b n
   ·simp only[mV,cV];omega
   ·rw[h4 hb];simp only[cP];omega
def UN(b:Nat→Bool):∀n,cA b n+cA (λi=> !b i) n=n
 |0=>rfl
 |n+1=>by have:=UN b n;rw[cA,cA];cases b n<;>simp<;>omega
def adF{b:Nat→Bool}:∀{n:Nat},0<cA b n→∃i,i<n∧b i=true
 |0,h=>absurd h (by simp[cA])
 |n+1,h=>by
  cases hb:b n
  ·rw[cA,hb]at h;obtain⟨i,h1,h2⟩:=adF (n:=n) cq;exact⟨i,by omega,h2⟩
  ·exact⟨n,by omega,hb⟩
def UO{b:Nat→Bool}{n i:Nat}(hi:i<n)(h:b i=true):0<cA b n:=by have:=UM (b:=λ_=>false) (c:=b) (n:=n) (λj _ hj=>by cases hj) ⟨i,hi,ae,h⟩;omega
def ri(b:Nat→Bool):Nat→Nat
 |0=>0
 |n+1=>(if b n then 2^n else 0)+ri b n
def N3(b:Nat→Bool):∀n,ri b n<2^n
 |0=>Nat.one_pos
 |n+1=>by have:=N3 b n;rw[ri,jl];split<;>omega
def UP(b:Nat→Bool):∀{n i:Nat},i<n→(ri b n).testBit i=b i
 |0,_,h=>absurd h af
 |n+1,i,h=>by
  rw[ri];by_cases e:i=n
  ·subst e;have h1:=Nat.testBit_lt_two_pow (N3 b i);cases hb:b i
   ·simp only[mV,cV,eZ];exact h1
   ·simp only[cP];rw[Nat.testBit_two_pow_add_eq,h1];rfl
  ·have ih:=UP b (n:=n) (i:=i) af;cases hb:b n
   ·simp only[mV,cV,eZ];exact ih
   ·simp only[cP];rw[Nat.testBit_two_pow_add_gt af];exact ih
def v9(n s:Nat):List Nat:=(List.range (2^n)).filter λS=>cA S.testBit n==s
def iH(n:Nat):List Nat:=(List.range (n/2)).flatMap λs=>v9 n (s+1)
def y8{n T:Nat}:T∈iH n↔T<2^n∧1≤cA T.testBit n∧cA T.testBit n≤n/2:=by
 unfold iH v9;simp only[jK,k7,xT,beq_iff_eq];constructor
 ·rintro⟨s,h1,h2,h3⟩;omega
 ·rintro⟨h1,h2,h3⟩;exact⟨cA T.testBit n-1,by omega,h1,by omega⟩
def aoy(n:Nat):(iH n).Pairwise (λx y=>cA x.testBit n≤cA y.testBit n):=by
 have key:∀k,((List.range k).flatMap λs=>v9 n (s+1)).Pairwise (λx y=>cA x.testBit n≤cA y.testBit n):=by
  intro k;induction k with
  |zero=>exact .nil
  |succ k ih=>
   rw[qk,zw]
   refine Bh.2 ⟨ih,?_,λx hx y hy=>?_⟩
   ·simp only[gN,Pu,kB];refine WB ?_ (List.pairwise_of_forall (R:=λ_ _=>True) (λ_ _=>trivial):(v9 n (k+1)).Pairwise λ_ _=>True);intro x y hx hy _;simp only[v9,xT,beq_iff_eq]at hx hy;omega
   ·simp only[jK,k7,gN,Pu,kB,v9,xT,beq_iff_eq]at hx hy;obtain⟨s,h1,h2,h3⟩:=hx;omega
 exact key _
structure ij(p:Nat)(m:Int)(a:List Int)(l:List (List Int)):Prop where
 H:bI p
 pm:∃e,1≤e∧m=(p:Int)^e
 am:bT a
 lm:∀f∈l,bT f
 ig:∀f∈l,cj (fx f:Fx p)
 pair:l.Pairwise (λx y=>Co (fx x:Fx p) (fx y))
 pr:Cg m (ps a) (lG l)
 vO:lE (fx a:Fx p)
 len:a.length=1+iW l
 bd:∀g,bT g→Rx.zx g∣Rx.zx a→∀i,2*((g.getD i 0).natAbs:Int)<m
section
variable{p:Nat}{m:Int}{a:List Int}{l:List (List Int)}
def ij.m1(h:ij p m a l):1<m∧(p:Int)∣m:=by obtain⟨e,h1,rfl⟩:=h.pm;have hp:=h.H.hp.1;obtain⟨e,rfl⟩:∃e',e=e'+1:=⟨e-1,by omega⟩;have h2:(0:Int)<(p:Int)^e:=sI af;rw[fU];refine⟨?_,Pt _ _⟩;have h3:=jI (show(1:Int)≤(p:Int)^e by omega) (show(0:Int)≤p by omega);omega
def ij.co(h:ij p m a l){i j:Nat}(hi:i<l.length)(hj:j<l.length)(aR:i≠j):Co (fx (l.getD i []):Fx p) (fx (l.getD j [])):=by
 have hp:=Kq.1 h.pair;rw[aU,aU,cr hi,cr hj];rcases WQ aR with e|e
 ·exact hp i j hi hj e
 ·exact(hp j i hj hi e).symm
def ij.Ju(h:ij p m a l){i:Nat}(hi:i<l.length):l.getD i []∈l:=by rw[aU,cr hi];exact k6 hi
def adG{Q:Fx p}(H:bI p)(hQ:cj Q):∀{l:List (List Int)},Q∣iG l→∃f∈l,Q∣fx f
 |[],h=>absurd h (hQ.xq H)
 |f::l,h=>by
  rcases hQ.r6 H h with e|e
  ·exact⟨f,by simp,e⟩
  ·obtain⟨x,h1,h2⟩:=adG H hQ e;exact⟨x,by simp[h1],h2⟩
def ij.aoz(h:ij p m a l)(b:Nat→Bool):(fx (gS m l b):Fx p)=iG (bL b 0 l):=by obtain⟨h1,h2⟩:=h.m1;rw[←A0 (bL b 0 l) m h2];refine akQ (Cg.of λi=>?_);rw[dV,dV,gS,C0 _ af,←xR _ h2,UC af,xR _ h2]
def ij.F1(h:ij p m a l)(b:Nat→Bool):bT (gS m l b)∧(gS m l b).length=1+iW (bL b 0 l):=by obtain⟨h1,h2⟩:=h.m1;obtain⟨h3,h4⟩:=AZ h1 C1 (λf hf=>h.lm f (xF hf):∀f∈bL b 0 l,bT f);refine⟨UD h1 h3,?_⟩;rw[gS,dM,h4];rfl
def ij.adH(h:ij p m a l)(b:Nat→Bool){j:Nat}(hj:j<l.length):(fx (l.getD j []):Fx p)∣fx (gS m l b)↔b j=true:=by
 rw[h.aoz];constructor
 ·intro hd;obtain⟨f,hf,h1⟩:=adG h.H (h.ig _ (h.Ju hj)) hd;obtain⟨i,h2,h3,h4⟩:=Jt hf;rw[eZ]at h3;by_cases e:j=i
  ·rw[e];exact h3
  ·have h5:=h.co hj h2 e;rw[h4]at h5;have:=h5.unit h.H h1;have:=(h.ig _ (h.Ju hj)).1;omega
 ·intro hb;have:=UK (b:=b) (l:=l) (i:=0) (j:=j) hj (by rw[eZ];exact hb);have key:∀{l:List (List Int)}{f:List Int},f∈l→(fx f:Fx p)∣iG l:=by
   intro l;induction l with
   |nil=>intro f hf;cases hf
   |cons y l ih=>
    intro f hf
    rcases dC.1 hf with rfl|hf
    ·exact dvd_mul_right _ _
    ·exact fl (ih hf) _
  exact key this
def C3{b c:Nat→Bool}:∀{l:List (List Int)}{i:Nat},(∀j,j<l.length→b (i+j)=c (i+j))→bL b i l=bL c i l
 |[],_,_=>rfl
 |f::l,i,h=>by
  have ih:=C3 (b:=b) (c:=c) (l:=l) (i:=i+1) λj hj=>by have:=h (j+1) cT;rwa[show i+(j+1)=i+1+j by omega]at this
  rw[bL,bL,ih];have:=h 0 be;rw[kg]at this;rw[this]
def UQ{x y z:List Int}(h:ps x*ps y=ps z):(fx z:Fx p)=fx x*fx y:=(mk_congr h ((aY.ps p x).mul (aY.ps p y)) (aY.ps p z)).symm
def ij.mask(h:ij p m a l){g k:List Int}(hg:bT g)(hk:bT k)(e:Rx.zx a=Rx.zx g*Rx.zx k):
  ∃b:Nat→Bool,g=gS m l b∧k=gS m l (λi=> !b i)∧(∀j,j<l.length→(b j=true↔(fx (l.getD j []):Fx p)∣fx g))∧Cg m (ps g) (lG (bL b 0 l))∧Cg m (ps k) (lG (bL (λi=> !b i) 0 l)):=by
 obtain⟨qE,jM⟩:=h.m1
 have H:=h.H
 have jo:(1:Int)<p:=xN
 have eps:=Rx.NT e.symm
 have F2:(fx a:Fx p)=fx g*fx k:=UQ eps
 classical
 let b:Nat→Bool:=λj=>decide ((fx (l.getD j []):Fx p)∣fx g)
 have hb:∀j,b j=true↔(fx (l.getD j []):Fx p)∣fx g:=λj=>decide_eq_true_iff
 have N4:∀c:Nat→Bool,∀f∈bL c 0 l,bT f:=λc f hf=>h.lm f (xF hf)
 have d1:(iG (bL b 0 l):Fx p)∣fx g:=UJ H (Js h.pair) λf hf=>by obtain⟨j,_,h2,h3⟩:=Jt hf;rw[eZ]at h2;rw[←h3];exact(hb j).1 h2
 have eA:(fx a:Fx p)=iG l:=by rw[C2];refine mk_eq.2 (Cg.of λi=>?_);have:=h.pr.at i;rw[←xR _ jM,this,xR _ jM]
 have lone:∀{l:List (List Int)}{f:List Int},f∈l→(fx f:Fx p)∣iG l:=by
  intro l;induction l with
  |nil=>intro f hf;cases hf
  |cons y l ih=>
   intro f hf
   rcases dC.1 hf with rfl|hf
   ·exact dvd_mul_right _ _
   ·exact fl (ih hf) _
 have d2:(iG (bL (λi=> !b i) 0 l):Fx p)∣fx k:=UJ H (Js h.pair) λf hf=>by
  obtain⟨j,h1,h2,h3⟩:=Jt hf;rw[eZ]at h2;have hjm:=h.Ju h1;rw[←h3];have hd:(fx (l.getD j []):Fx p)∣fx g*fx k:=by rw[←F2,eA];exact lone hjm
  rcases(h.ig _ hjm).r6 H hd with e1|e1
  ·rw[(hb j).2 e1]at h2;cases h2
  ·exact e1
 have e2:(iG (bL b 0 l)*iG (bL (λi=> !b i) 0 l):Fx p)=iG l:=by rw[C2,C2,C2,ZY];exact mk_congr (UI b l 0) _ _
 obtain⟨w,hw⟩:=d1
 obtain⟨w',UR⟩:=d2
 have N5:(fx a:Fx p)≠0:=λe0=>by have h1:=v8 H h.am;rw[e0,kJ H.pos]at h1;have:=cZ.2 h.am.1;omega
 have ww:w*w'=1:=by refine yO H (A:=(iG l:Fx p)) (by rw[←eA];exact N5) ?_;rw[one_mul,←e2];have e3:w*w'*(iG (bL b 0 l)*iG (bL (λi=> !b i) 0 l))=w*iG (bL b 0 l)*(w'*iG (bL (λi=> !b i) 0 l)):=kN;rw[e3,←hw,←UR,←F2,eA,e2]
 have sw:sz w=1:=Cx H (by rw[mul_comm];exact ww:w'*w=1)
 have sw':sz w'=1:=Cx H ww
 obtain⟨tm1,tl1⟩:=AZ jo C1 (N4 b)
 obtain⟨tm2,tl2⟩:=AZ jo C1 (N4 λi=> !b i)
 have eg:(fx g:Fx p)=iG (bL b 0 l):=by have hp:=A0 (p:=p) (bL b 0 l) p (KM _);rw[←hp]at hw⊢;exact adC H hg tm1 sw hw
 have ek:(fx k:Fx p)=iG (bL (λi=> !b i) 0 l):=by have hp:=A0 (p:=p) (bL (λi=> !b i) 0 l) p (KM _);rw[←hp]at UR⊢;exact adC H hk tm2 sw' UR
 have lg:g.length=1+iW (bL b 0 l):=by have h1:=v8 H hg;rw[eg,←A0 (p:=p) (bL b 0 l) p (KM _),v8 H tm1,tl1]at h1;rw[←h1];rfl
 have lk:k.length=1+iW (bL (λi=> !b i) 0 l):=by have h1:=v8 H hk;rw[ek,←A0 (p:=p) (bL (λi=> !b i) 0 l) p (KM _),v8 H tm2,tl2]at h1;rw[←h1];rfl
 obtain⟨um1,ul1⟩:=AZ qE C1 (N4 b)
 obtain⟨um2,ul2⟩:=AZ qE C1 (N4 λi=> !b i)
 have c1:Cg p (ps g) (ps (jG m [1] (bL b 0 l))):=mk_eq.1 (eg.trans (A0 (bL b 0 l) m jM).symm:Fx.mk (ps g) (aY.ps p g)=Fx.mk (ps (jG m [1] (bL b 0 l))) (aY.ps p _))
 have c2:Cg p (ps k) (ps (jG m [1] (bL (λi=> !b i) 0 l))):=mk_eq.1 (ek.trans (A0 (bL (λi=> !b i) 0 l) m jM).symm:Fx.mk (ps k) (aY.ps p k)=Fx.mk (ps (jG m [1] (bL (λi=> !b i) 0 l))) (aY.ps p _))
 have oZ:Co (fx g:Fx p) (fx k):=AH H (λe0=>N5 (by rw[F2,e0,zero_mul])) λQ hQ q1 q2=>h.vO Q hQ (by rw[F2];exact xr q1 q2)
 have aoF:MD (g.length-1) (ps (jG m [1] (bL b 0 l))):=by have:=um1.FZ;rwa[ul1,show([1]:List Int).length=1 from ae,←lg]at this
 have aoG:MD (k.length-1) (ps (jG m [1] (bL (λi=> !b i) 0 l))):=by have:=um2.FZ;rwa[ul2,show([1]:List Int).length=1 from ae,←lk]at this
 obtain⟨e0,Qr,N6⟩:=h.pm
 have t1:=N1 m (bL b 0 l) [1]
 have t2:=N1 m (bL (λi=> !b i) 0 l) [1]
 rw[Cr,PS.one_mul]at t1 t2
 have Mp:Cg m (ps g*ps k) (ps (jG m [1] (bL b 0 l))*ps (jG m [1] (bL (λi=> !b i) 0 l))):=by rw[eps];refine h.pr.trans ?_;rw[←UI b l 0];exact(t1.mul t2).symm
 have hh:=ady H hg.FZ aoF hk.FZ aoG oZ c1 c2 e0 Qr (N6▸Mp)
 rw[←N6]at hh
 have fin:∀{g:List Int}{t:List Int},bT g→Rx.zx g∣Rx.zx a→g.length=t.length→Cg m (ps g) (ps t)→g=t.map (ft · m):=by
  intro g t hg hd hl hc;refine xE (by rw[dM,hl]) λj _=>?_
  rw[C0 _ af,←aoq (a:=g.getD j 0) (b:=t.getD j 0) (hc.at j)];exact(aox (h.bd g hg hd j)).symm
 refine⟨b,fin hg (by rw[e];exact Rx.dvd_mul_right _ _) (by rw[ul1,lg];rfl) hh.1,fin hk (by rw[e];exact Rx.dvd_mul_left _ _) (by rw[ul2,lk];rfl) hh.2,λj _=>hb j,hh.1.trans t1,hh.2.trans t2⟩
def ij.adO(h:ij p m a l){b:Nat→Bool}(hb:0<cA b l.length):1≤iW (bL b 0 l):=by
 obtain⟨j,h1,h2⟩:=adF hb;have h3:=UK (b:=b) (l:=l) (i:=0) h1 (by rw[eZ];exact h2);have h4:=(h.ig _ (h.Ju h1)).1;rw[v8 h.H (h.lm _ (h.Ju h1))]at h4;have key:∀{L:List (List Int)},l.getD j []∈L→1≤iW L:=by
  intro L;induction L with
  |nil=>intro hx;cases hx
  |cons y L ih=>
   intro hx
   rw[iW]
   rcases dC.1 hx with e|e
   ·rw[←e];omega
   ·have:=ih e;omega
 exact key h3
def ij.xg(h:ij p m a l){u v:Rx}(hu:Rx.Mo u)(hv:Rx.Mo v)(e:Rx.zx a=u*v):∃g k,bT g∧bT k∧Rx.zx g=u∧Rx.zx k=v:=by obtain⟨i1,i2⟩:=Rx.UL hu hv (e▸Rx.CZ a);obtain⟨g,g1,g2⟩:=Rx.NR i1;obtain⟨k,k1,k2⟩:=Rx.NR i2;exact⟨g,k,Rx.NS g1 (g2▸hu),Rx.NS k1 (k2▸hv),g2,k2⟩
def ij.first(h:ij p m a l){S:Nat}(hS:S∈iH l.length)(hd:Rx.zx (gS m l S.testBit)∣Rx.zx a)(hf:∀T∈iH l.length,cA T.testBit l.length<cA S.testBit l.length→¬Rx.zx (gS m l T.testBit)∣Rx.zx a):Rx.cj (Rx.zx (gS m l S.testBit)):=by
 obtain⟨_,hS1,hS2⟩:=y8.1 hS;obtain⟨gm,gl⟩:=h.F1 S.testBit;have Ji:=h.adO (b:=S.testBit) af;refine⟨by rw[Rx.mT gm.can];omega,λA B e=>gE λhn=>?_⟩;obtain⟨u,v,hu,hv,e2,su,sv⟩:=Rx.adD (Rx.ou gm) e (λh=>hn (.inl h)) (λh=>hn (.inr h));obtain⟨k,hk⟩:=hd;have C4:Rx.Mo k:=by have:=Rx.ou h.am;rw[hk]at this;exact this.CP (Rx.ou gm)
 have ea:Rx.zx a=u*(k*v):=by rw[hk,e2];ac_rfl
 obtain⟨g',k',g1,k1,g2,k2⟩:=h.xg hu (C4.mul hv) ea;obtain⟨b,b1,b2,b3,_⟩:=h.mask g1 k1 (by rw[g2,k2];exact ea);have hgv:∃v',bT v'∧Rx.zx v'=v:=by obtain⟨_,i2⟩:=Rx.UL hu hv (e2▸Rx.CZ _);obtain⟨v',v1,v2⟩:=Rx.NR i2;exact⟨v',Rx.NS v1 (v2▸hv),v2⟩
 obtain⟨v',_,v2⟩:=hgv;have F2:(fx (gS m l S.testBit):Fx p)=fx g'*fx v':=UQ (Rx.NT (by rw[g2,v2];exact e2.symm));have sub:∀i,i<l.length→b i=true→S.testBit i=true:=λi hi hb=>(h.adH S.testBit hi).1 (by rw[F2];exact qU ((b3 i hi).1 hb) _)
 have US:g'.length=1+iW (bL b 0 l):=by rw[b1];exact(h.F1 b).2
 have sg':Rx.sz u=g'.length:=by rw[←g2,Rx.mT g1.can]
 have br:g'.length<(gS m l S.testBit).length:=by have:=Rx.eH hu.ne hv.ne;rw[←e2,Rx.mT gm.can]at this;omega
 have hex:∃i,i<l.length∧b i=false∧S.testBit i=true:=gE λaR=>by
  have:bL b 0 l=bL S.testBit 0 l:=C3 λj hj=>by
   rw[eZ];cases hb:b j
   ·cases hs:S.testBit j
    ·rfl
    ·exact absurd ⟨j,hj,hb,hs⟩ aR
   ·exact(sub j hj hb).symm
  rw[US,this]at br;omega
 have rK:=UM sub hex;have BE:0<cA b l.length:=by
  rcases wE (cA b l.length)with e0|e0
  ·have:bL b 0 l=bL (λ_=>false) 0 l:=C3 λj hj=>by
    rw[eZ];cases hb:b j
    ·rfl
    ·have:=UO hj hb;omega
   have z:∀(L:List (List Int))(i:Nat),bL (λ_=>false) i L=[]:=by
    intro L;induction L with
    |nil=>intro i;rfl
    |cons y L ih=>intro i;rw[bL,aq ak,ih]
   rw[this,z]at US;have:g'.length=1:=US;omega
  ·exact e0
 have vj:∀i,i<l.length→(ri b l.length).testBit i=b i:=λi hi=>UP b hi
 have vk:cA (ri b l.length).testBit l.length=cA b l.length:=N2 vj;have N7:gS m l (ri b l.length).testBit=g':=by rw[b1,gS,gS,C3 (b:=(ri b l.length).testBit) (c:=b) λj hj=>by rw[eZ];exact vj j hj]
 refine hf (ri b l.length) (y8.2 ⟨N3 b _,by omega,by omega⟩) af ?_;rw[N7,g2,ea];exact Rx.dvd_mul_right _ _
def ij.none(h:ij p m a l)(hl:l≠[])(hf:∀T∈iH l.length,¬Rx.zx (gS m l T.testBit)∣Rx.zx a):Rx.cj (Rx.zx a):=by
 have BH:=cZ.2 hl;have nz:=h.adO (b:=λ_=>true) (UO (i:=0) BH ae);have tr:∀(L:List (List Int))(i:Nat),bL (λ_=>true) i L=L:=by
  intro L;induction L with
  |nil=>intro i;rfl
  |cons y L ih=>intro i;rw[bL,aw ae,ih]
 rw[tr]at nz;have hlen:=h.len;refine⟨by rw[Rx.mT h.am.can];omega,λA B e=>gE λhn=>?_⟩;obtain⟨u,v,hu,hv,e2,su,sv⟩:=Rx.adD (Rx.ou h.am) e (λh=>hn (.inl h)) (λh=>hn (.inr h));obtain⟨g,k,g1,k1,g2,k2⟩:=h.xg hu hv e2;obtain⟨b,b1,b2,b3,_⟩:=h.mask g1 k1 (by rw[g2,k2];exact e2);have pos:∀{c:Nat→Bool}{x:List Int},x=gS m l c→2≤x.length→0<cA c l.length:=by
  intro c x hx h2;rcases wE (cA c l.length)with e0|e0
  ·have e1:bL c 0 l=bL (λ_=>false) 0 l:=C3 λj hj=>by
    rw[eZ];cases hb:c j
    ·rfl
    ·have:=UO hj hb;omega
   have z:∀(L:List (List Int))(i:Nat),bL (λ_=>false) i L=[]:=by
    intro L;induction L with
    |nil=>intro i;rfl
    |cons y L ih=>intro i;rw[bL,aq ak,ih]
   have h3:=(h.F1 c).2;rw[←hx,e1,z]at h3;have:x.length=1:=h3;omega
  ·exact e0
 have p1:=pos b1 (by rw[←g2,Rx.mT g1.can]at su;exact su);have p2:=pos b2 (by rw[←k2,Rx.mT k1.can]at sv;exact sv);have aoK:=UN b l.length;have go:∀(c:Nat→Bool)(x:List Int),x=gS m l c→0<cA c l.length→cA c l.length≤l.length/2→Rx.zx x∣Rx.zx a→False:=by
  intro c x hx hp hle hd;have vj:∀i,i<l.length→(ri c l.length).testBit i=c i:=λi hi=>UP c hi
  have vk:cA (ri c l.length).testBit l.length=cA c l.length:=N2 vj;refine hf (ri c l.length) (y8.2 ⟨N3 c _,by omega,by omega⟩) ?_;rw[show gS m l (ri c l.length).testBit=x by rw[hx,gS,gS,C3 (b:=(ri c l.length).testBit) (c:=c) λj hj=>by rw[eZ];exact vj j hj]];exact hd
 by_cases hh:cA b l.length≤l.length/2
 ·exact go b g b1 p1 hh (by rw[g2,e2];exact Rx.dvd_mul_right _ _)
 ·exact go _ k b2 p2 af (by rw[k2,e2];exact Rx.dvd_mul_left _ _)
end
end Go.El
namespace Go.El
open Fx
open Classical in
noncomputable def rj(a g:List Int):List Int:=if h:∃q,bT q∧Rx.zx a=Rx.zx g*Rx.zx q then Classical.choose h else[]
open Classical in
noncomputable def wa(m:Int)(a:List Int)(l:List (List Int)):Option Nat:=(iH l.length).find? λS=>decide (Rx.zx (gS m l S.testBit)∣Rx.zx a)
noncomputable def tG(m:Int):Nat→List Int→List (List Int)→List (List Int)
 |0,a,_=>[a]
 |k+1,a,l=>match wa m a l with
  |some S=>gS m l S.testBit::tG m k (rj a (gS m l S.testBit)) (bL (λi=> !S.testBit i) 0 l)
  |none=>[a]
open Classical in
def adP{m:Int}{a:List Int}{l:List (List Int)}{S:Nat}(h:wa m a l=some S):∃us ws,iH l.length=us++S::ws∧Rx.zx (gS m l S.testBit)∣Rx.zx a∧∀T∈us,¬Rx.zx (gS m l T.testBit)∣Rx.zx a:=by unfold wa at h;obtain⟨h1,us,ws,h2,h3⟩:=List.find?_eq_some_iff_append.1 h;refine⟨us,ws,h2,a9 h1,λT hT hd=>?_⟩;have:=h3 T hT;rw[KB]at this;exact bC this hd
open Classical in
def aoL{m:Int}{a:List Int}{l:List (List Int)}(h:wa m a l=none):∀T∈iH l.length,¬Rx.zx (gS m l T.testBit)∣Rx.zx a:=by unfold wa at h;intro T hT hd;exact KA.1 h T hT (oK hd)
section
variable{p:Nat}{m:Int}{a:List Int}{l:List (List Int)}
def ij.aoM(h:ij p m a l){S:Nat}(hf:wa m a l=some S):Rx.cj (Rx.zx (gS m l S.testBit)):=by
 obtain⟨us,ws,h1,h2,h3⟩:=adP hf;have hS:S∈iH l.length:=by rw[h1];simp
 refine h.first hS h2 λT hT br=>?_
 have hp:=aoy l.length;rw[h1]at hT hp;rcases b6.1 hT with e|e
 ·exact h3 T e
 ·exfalso;rcases dC.1 e with e|e
  ·subst e;omega
  ·have:=(jW.1 (Bh.1 hp).2.1).1 T e;omega
def ij.rest(h:ij p m a l){S:Nat}(hS:S∈iH l.length)(hd:Rx.zx (gS m l S.testBit)∣Rx.zx a):Rx.zx a=Rx.zx (gS m l S.testBit)*Rx.zx (rj a (gS m l S.testBit))∧ij p m (rj a (gS m l S.testBit)) (bL (λi=> !S.testBit i) 0 l)∧bL (λi=> !S.testBit i) 0 l≠[]∧(bL (λi=> !S.testBit i) 0 l).length<l.length:=by
 obtain⟨_,hS1,hS2⟩:=y8.1 hS;obtain⟨gm,gl⟩:=h.F1 S.testBit;have hex:∃q,bT q∧Rx.zx a=Rx.zx (gS m l S.testBit)*Rx.zx q:=by
  obtain⟨k,hk⟩:=hd;have C4:Rx.Mo k:=by have:=Rx.ou h.am;rw[hk]at this;exact this.CP (Rx.ou gm)
  obtain⟨k',g',k1,_,k2,_⟩:=h.xg C4 (Rx.ou gm) hk;exact⟨k',k1,by rw[k2,hk,Rx.mul_comm]⟩
 obtain⟨qm,qe⟩:=xQ hex;have e0:rj a (gS m l S.testBit)=Classical.choose hex:=by unfold rj;rw[dif_pos hex]
 rw[←e0]at qm qe;generalize hg:gS m l S.testBit=g at*;generalize rj a g=q at*;obtain⟨b,b1,b2,b3,b4,b5⟩:=h.mask gm qm qe;have hbS:∀j,j<l.length→b j=S.testBit j:=λj hj=>by
  have h1:=b3 j hj;rw[←hg,h.adH S.testBit hj]at h1;cases hb:b j
  ·cases hs:S.testBit j
   ·rfl
   ·rw[h1.2 hs]at hb;cases hb
  ·exact(h1.1 hb).symm
 have N7:bL (λi=> !b i) 0 l=bL (λi=> !S.testBit i) 0 l:=C3 λj hj=>by rw[eZ,hbS j hj]
 have hlen:∀(c:Nat→Bool)(L:List (List Int))(i:Nat),(bL c i L).length=cA (λj=>c (i+j)) L.length:=by
  intro c L;induction L with
  |nil=>intro i;rfl
  |cons y L ih=>
   intro i
   have sh:∀n,cA (λj=>c (i+j)) (n+1)=(if c i then 1 else 0)+cA (λj=>c (i+1+j)) n:=by
    intro n;induction n with
    |zero=>rw[cA,cA,cA];simp
    |succ n SS=>rw[cA,SS,cA,show i+(n+1)=i+1+n by omega];omega
   rw[bL,fv,sh]
   have:=ih (i+1)
   split
   ·rw[fv];omega
   ·omega
 have qA:(bL (λi=> !S.testBit i) 0 l).length=cA (λi=> !S.testBit i) l.length:=by rw[hlen];exact N2 λi _=>by rw[eZ]
 have aoK:=UN S.testBit l.length;refine⟨qe,?_,λe=>by rw[e]at qA;simp at qA;omega,by omega⟩;have Jv:Rx.zx q∣Rx.zx a:=by rw[qe];exact Rx.dvd_mul_left _ _
 refine⟨h.H,h.pm,qm,λf hf=>h.lm f (xF hf),λf hf=>h.ig f (xF hf),Js h.pair,N7▸b5,?_,?_,λg' g1 g2=>h.bd g' g1 (Rx.dvd_trans g2 Jv)⟩
 ·refine h.vO.of_dvd ?_;rw[UQ (Rx.NT qe.symm)];exact dvd_mul_left _ _
 ·rw[b2,(h.F1 _).2,N7]
def ij.all:∀(k:Nat){a:List Int}{l:List (List Int)},l.length≤k→l≠[]→ij p m a l→(∀r∈tG m k a l,bT r∧Rx.cj (Rx.zx r))∧Rx.sx (tG m k a l)=Rx.zx a
 |0,_,l,h1,h2,_=>absurd (iu af) h2
 |k+1,a,l,h1,h2,h=>by
  rw[tG];cases hf:wa m a l with
  |none=>
   have hi:=h.none h2 (aoL hf)
   refine⟨λr hr=>?_,Rx.mul_one _⟩
   rw[jJ.1 hr]
   exact⟨h.am,hi⟩
  |some S=>
   obtain⟨us,ws,s1,s2,_⟩:=adP hf
   have hS:S∈iH l.length:=by rw[s1];simp
   obtain⟨r1,r2,r3,r4⟩:=h.rest hS s2
   obtain⟨i1,i2⟩:=ij.all k af r3 r2
   refine⟨λr hr=>?_,by rw[Rx.sx,i2,←r1]⟩
   rcases dC.1 hr with e|e
   ·rw[e];exact⟨(h.F1 _).1,h.aoM hf⟩
   ·exact i1 r e
end
end Go.El
namespace Go.El
open Go Go.RowKit Go.Proofs
abbrev ZZ:ET:= .pr .z .z
def qz(r:Rat):Int×Int:=(r.num,(r.den:Int))
def Jw(E:TypeId)(rs:List Rat):di (.vec E ZZ (rs.map qz)) (.vec E .q rs):=by
 refine⟨λN g W id h=>?_,λ_ h=>by cases h⟩;rcases h with⟨h1,h2⟩|⟨b,cap,vs,h1,h2,h3,h4,h5,h6,h7,h8⟩
 ·exact .inl ⟨h1,List.map_eq_nil_iff.1 h2⟩
 ·rw[dM]at h1 h4 h5;refine .inr ⟨b,cap,vs,h1,h2,h3,h4,h5,λi hi=>?_,h7,h8⟩;have:=h6 i (by rw[dM];exact hi);rw[sH]at this;exact this
def adQ(rs:List Rat):au (.c (.S .q rs)) (.c (.S ZZ (rs.map qz))):=by
 refine⟨λg v h=>?_,λ_ h=>by simpa[AV.aD,C.aD]using h⟩;obtain⟨a,cap,h1,h2,h3,h4⟩:nt (dm g.H .q) 4 g.H rs v:=h;refine⟨a,cap,by rw[dM];exact h1,by rw[dM];exact h2,by rw[dM];exact h3,?_⟩;rcases h4 with h4|⟨b,off,e,h4⟩
 ·exact .inl (by rw[h4];rfl)
 ·refine .inr ⟨b,off,e,λi hi=>?_⟩;rw[dM]at hi;obtain⟨cs,c1,c2,c3⟩:=h4 i hi;exact⟨cs,c1,by rw[sH];exact c2,c3⟩
end Go.El
namespace Go.El
open Go Go.Proofs
def aoO{α:Type}(a b:α){i n:Nat}(h:i<n):(List.replicate i a++List.replicate (n-i) b).set i a=List.replicate (i+1) a++List.replicate (n-(i+1)) b:=by rw[qi _ _ be,jy,iw,show n-i=(n-(i+1))+1 by omega,wC,DF,List.replicate_succ',np];rfl
set_option maxHeartbeats 2000000 in
def N8(n:Nat)(hn:n≤1000):m9 Tryz.prog 245 [cI n] 46 .q (List.replicate n 0):=by
 refine Af Tryz.func245 ae ae ae ae ak ?_;refine rr ae (rb (rm ZZ n ae ae ae ae ae ae Ly ae ?_ ?_ (re ae (aj (rr ae ?_)))))
 ·show n*64≤_;omega
 ·show n*4≤_;omega
 refine aH (bA (α:=Nat) (λi=>⟨[(3,.c (.X 1001000)),(7,cI n),(8,cI i)],[(1001000,.vec 46 ZZ (List.replicate i (0,1)++List.replicate (n-i) (0,0)))],3,[]⟩) (λi=>i≤n) (λi=>n-i) 0 (bK _) (wk ⟨sR ae,sR ae,sR ae,ah⟩ ⟨bE ae ae,ah⟩) ?_);intro i hi;refine rr ae (aj (ax ae (λh=>?_) (λh=>?_)))
 ·have h:i<n:=by have h:(i:Int)<(n:Int):=a9 h;omega
  have hl:(List.replicate i ((0,1):Int×Int)++List.replicate (n-i) (0,0)).length=n:=cT;refine aC (ai (aj (aH (rr ae (cK (rc ae ae (Nm 0 ak ak) (lV ((0,1):Int×Int) ae ae ae ae ae ?_ (re ae (a6 (ai (rt ae (hp:=aN) (a8 (i+1) h Pc (wk ⟨sR ae,sR ae,sR ae,ah⟩ ⟨bE ae ?_,ah⟩)))))) (hp:=?_))))))))
  ·show((i:Int)).toNat<_;rw[hl];omega
  ·refine ay (aK.vec 46 ZZ) ?_;show(List.replicate i ((0,1):Int×Int)++List.replicate (n-i) (0,0)).set ((i:Int)).toNat (0,1)=_;rw[bu,aoO _ _ h]
  ·show 0≤(i:Int)∧(i:Int)<((List.replicate i ((0,1):Int×Int)++List.replicate (n-i) (0,0)).length:Int);rw[hl];omega
 ·have h:i=n:=by have h:¬(i:Int)<(n:Int):=bC h;omega
  subst h;refine bh (bt (bq (bp (ai ?_))));refine dy (st':=⟨[(3,.c (.X 1001000))],[(1001000,.vec 46 .q (List.replicate i 0))],4,[]⟩) (wk ⟨sR ae,ah⟩ ⟨⟨_,ae,?_⟩,ah⟩) (rr ae (aF (yu (id:=1001000) ar ae ae)));have:=Jw 46 (List.replicate i 0);rw[List.map_replicate]at this;rw[iw,wD,kB];exact this
def Jx(xs:List Rat)(hl:xs.length≤1000000):aG Tryz.prog 248 [cS .q xs] (cS .q (eo xs)):=by
 refine aX Tryz.func248 ae ae ae ae ae ak ?_;refine rr ae (rr ae ?_);refine aj (aH (bA (α:=Nat) (λk=>⟨[(0,cS .q xs),(3,cI k)],[],2,[]⟩) (λk=>k≤xs.length∧iS xs k=iS xs xs.length) (λk=>k) xs.length ⟨bD _,ae⟩ bY ?_));rintro k ⟨hk,iR⟩;have fin:iS xs k=k→au (cS .q (List.take k xs)) (cS .q (eo xs)):=λe=>by refine au.of_eq ?_;unfold eo;rw[←iR,e]
 refine aj (rb ?_);refine rg 8 ae ae (λh=>?_) (λh=>?_)
 ·have h:0<k:=by have h:(k:Int)>0:=a9 h;omega
  obtain⟨j,rfl⟩:∃j,k=j+1:=⟨k-1,by omega⟩;have ej:(((j+1:Nat):Int)-1).toNat=j:=af;refine fj ae ae ae ae ae (I4 (xs.getD (((j+1:Nat):Int)-1).toNat 0)) (re ae ?_) (hp:=jT);refine ax ae (λh2=>?_) (λh2=>?_)
  ·have h2:(xs.getD j 0).num=0:=by have h2:cN (xs.getD (((j+1:Nat):Int)-1).toNat 0).num=0:=eq_of_beq h2;rw[ej]at h2;exact uD.1 h2
   refine aC (ai (aH (rt ae (a6 (a8 j ⟨by omega,?_⟩ po (wk ⟨sR ae,sE ae ?_,ah⟩ ah))) (hp:=jT))))
   ·rw[←iR,iS,aw h2]
   ·exact ay (λz=>AV.c (C.I .i64 z)) (show((j+1:Nat):Int)-1=(j:Int)by omega)
  ·have h2:(xs.getD j 0).num≠0:=by have h2:cN (xs.getD (((j+1:Nat):Int)-1).toNat 0).num≠0:=kU h2;rw[ej]at h2;exact λe=>h2 (uD.2 e)
   exact bh (bt (bq (bp (ai (rr ae (aF (aL ar ae (fin (by rw[iS,aq h2])))) (hp:=aN))))))
 ·have h:k=0:=by have h:¬(k:Int)>0:=bC h;omega
  subst h;exact re ae (ax ae (λh2=>by cases h2) (λ_=>bh (bt (bq (bp (ai (rr ae (aF (aL ar ae (fin ae))) (hp:=aN))))))))
def pe(r:List Rat)(c:Rat)(b:List Rat)(k m:Nat):List Rat:=(List.range r.length).map λi=>if k≤i∧i<k+m then r.getD i 0+c*b.getD (i-k) 0 else r.getD i 0
def ow(r:List Rat)(c:Rat)(b:List Rat)(k:Nat):List Rat:=pe r c b k b.length
def pf(r c b k m):(pe r c b k m).length=r.length:=by simp[pe]
def y9{r:List Rat}{c:Rat}{b:List Rat}{k m i:Nat}(hi:i<r.length):(pe r c b k m).getD i 0=if k≤i∧i<k+m then r.getD i 0+c*b.getD (i-k) 0 else r.getD i 0:=by unfold pe;rw[aU,kc,oI hi];rfl
def Jy{a b:List Rat}(hl:a.length=b.length)(h:∀i,i<a.length→a.getD i 0=b.getD i 0):a=b:=by
 refine nV hl λi h1 h2=>?_
 have:=h i h1;rwa[aU,cr h1,aU,cr h2]at this
def aoP(r c b k):pe r c b k 0=r:=Jy (pf ..) λi hi=>by rw[pf]at hi;rw[y9 hi,aq af]
def aoQ(r b k):ow r 0 b k=r:=Jy (pf ..) λi hi=>by
 unfold ow at*;rw[pf]at hi;rw[y9 hi];split
 ·rw[u6,rF]
 ·rfl
def Jz{l:List Rat}{i:Nat}(c:Nat)(x:Rat)(h:i<l.length):(l.set i x).getD c 0=if i=c then x else l.getD c 0:=by
 rw[aU,GC];by_cases e:i=c
 ·subst e;rw[aw ae,aw ae,aw h];rfl
 ·rw[aq e,aq e,aU]
def aoR{r:List Rat}{c:Rat}{b:List Rat}{k m:Nat}(h:k+m<r.length):(pe r c b k m).set (k+m) (r.getD (k+m) 0+c*b.getD m 0)=pe r c b k (m+1):=Jy (by rw[gO,pf,pf]) λi hi=>by
 rw[gO,pf]at hi;rw[Jz _ _ (by rw[pf];exact h),y9 hi,y9 hi];by_cases e:k+m=i
 ·subst e;rw[aw ae,aw af,Gv]
 ·rw[aq e];by_cases e2:k≤i∧i<k+m
  ·rw[aw e2,aw af]
  ·rw[aq e2,aq af]
def aoS{r:List Rat}{c:Rat}{b:List Rat}{k m:Nat}(h:b.getD m 0=0):pe r c b k m=pe r c b k (m+1):=Jy (by rw[pf,pf]) λi hi=>by
 rw[pf]at hi;rw[y9 hi,y9 hi];by_cases e:i=k+m
 ·subst e;rw[aq af,aw af,Gv,h,jA,rF]
 ·by_cases e2:k≤i∧i<k+m
  ·rw[aw e2,aw af]
  ·rw[aq e2,aq af]
def C5{r:Rat}(h:r.num=0):r=0:=Rat.num_eq_zero.1 h
set_option maxRecDepth 100000 in
set_option maxHeartbeats 4000000 in
def UU{s:Nat}(hs:s≤1000000000)(r:List Rat)(c:Rat)(b:List Rat)(k:Nat)(hl:k+b.length≤r.length)(kF:r.length≤1000)(hr:∀i,QS s (r.getD i 0))(hc:QS s c)(hb:∀i,QS s (b.getD i 0)):
  nf Tryz.prog 253 [.c (.X 0),aQ c,cS .q b,cI k] 46 .q r (.t []) (ow r c b k):=by
 refine qJ Tryz.func253 ae ae ae ae ae ak ?_
 refine rr ae (aj (rb (rc ae ae (I4 c) (re ae (ax ae (λh=>?_) (λh=>aC (ai ?_)))))))
 ·have h:cN c.num=0:=eq_of_beq h;have h:c=0:=C5 (uD.1 h);subst h;rw[aoQ];exact aF (bS (uh ar ae (au.refl _) ae))
 refine rr ae ?_
 refine aH (bA (α:=Nat) (λm=>⟨[(0,.c (.X 0)),(3,cI k),(5,.c (.P 1000000 0)),(13,cS .q b),(14,cI b.length),(15,cI m)],[(0,.vec 46 .q (pe r c b k m)),(1000000,.box 46 0 (av .q c))],4,[]⟩) (λm=>m≤b.length) (λm=>b.length-m) 0 (bK _) (wk ⟨sR ae,sR ae,sR ae,sR ae,sR ae,sR ae,ah⟩ ⟨bE ae ?_,bE ae ae,ah⟩) ?_)
 ·rw[aoP]
 intro m hm
 refine rr ae (aj (ax ae (λh=>?_) (λh=>?_)))
 ·have h:m<b.length:=by have h:(m:Int)<(b.length:Int):=a9 h;omega
  have em:((m:Int)).toNat=m:=bu m;have ek:((m:Int)+(k:Int)).toNat=k+m:=af;have Fl:=pf r c b k m;have hg:(pe r c b k m).getD ((m:Int)+(k:Int)).toNat 0=r.getD (k+m) 0:=by rw[ek,y9 af,aq af]
  have uz:QS s (b.getD ((m:Int)).toNat 0):=hb _;have hrm:QS (2*s) ((pe r c b k m).getD ((m:Int)+(k:Int)).toNat 0):=by rw[hg];exact(hr _).le af
  refine aC (ai (aj (aH (rr ae (rb (rc ae ae (I4 (b.getD ((m:Int)).toNat 0)) (re ae (ax ae (λh2=>?_) (λh2=>aC ?_)))))))))
  ·refine cK (rc ae ae (TZ c (b.getD ((m:Int)).toNat 0) hc uz af) (rc ae ae (amQ _ _ hrm (hc.mul uz) af) (lV ((pe r c b k m).getD ((m:Int)+(k:Int)).toNat 0+c*b.getD ((m:Int)).toNat 0) ae ae ae ae ae ?_ (re ae ?_) (hp:=?_))) (hp:=?_))
   ·show((m:Int)+(k:Int)).toNat<(pe r c b k m).length;rw[ek,Fl];omega
   ·refine a6 (ai (rt ae (hp:=aN) (a8 (m+1) h (by show b.length-(m+1)<b.length-m;omega) (wk ⟨sR ae,sR ae,sR ae,sR ae,sR ae,sR ae,ah⟩ ⟨bE ae ?_,bE ae ae,ah⟩))));show aK.vec 46 .q ((pe r c b k m).set ((m:Int)+(k:Int)).toNat ((pe r c b k m).getD ((m:Int)+(k:Int)).toNat 0+c*b.getD ((m:Int)).toNat 0))=_;rw[hg,ek,em,aoR af]
   ·simp only[Pr.an,Pr.h,num,aA,true_and,and_true];omega
   ·simp only[Pr.an,Pr.h,num,aA,true_and,and_true];omega
  ·have h2:cN (b.getD ((m:Int)).toNat 0).num=0:=oV h2;rw[em]at h2;have h2:=C5 (uD.1 h2);refine a6 (ai (rt ae (hp:=aN) (a8 (m+1) h (by show b.length-(m+1)<b.length-m;omega) (wk ⟨sR ae,sR ae,sR ae,sR ae,sR ae,sR ae,ah⟩ ⟨bE ae ?_,bE ae ae,ah⟩))));rw[aoS h2]
 ·have h:m=b.length:=by have h:¬(m:Int)<(b.length:Int):=bC h;omega
  subst h;exact bh (bt (bq (bp (Ah ar ae (au.refl _) ae))))
def QS.zero{s:Nat}(h:1≤s):QS s 0:=⟨aW.zero _,(aW.one (a:=1) ak).le h⟩
def QS.int{s:Nat}(h:1≤s){n:Int}(hn:n.natAbs<4294967296):QS s (n:Rat):=⟨(aW.one hn).le h,(aW.one (a:=1) ak).le h⟩
def oz(c:Rat)(a:List Rat):List Rat:=a.map (c*·)
def adS(c:Rat)(a:List Rat)(i:Nat):(oz c a).getD i 0=c*a.getD i 0:=by
 unfold oz;rw[aU,kc,aU];cases a[i]? with
 |none=>show(0:Rat)=c*0;rw[jA]
 |some x=>rfl
def N9(n i:Nat):(List.replicate n (0:Rat)).getD i 0=0:=by rw[aU,mU];split<;>rfl
def aoU(c:Rat)(a:List Rat):ow (List.replicate a.length 0) c a 0=oz c a:=Jy (by rw[ow,pf,jy,oz,dM]) λi hi=>by rw[ow,pf,jy]at hi;rw[ow,y9 (by rw[jy];exact hi),aw af,N9,PM,Bt,adS]
set_option maxHeartbeats 2000000 in
def UW{s:Nat}(h1:1≤s)(hs:s≤1000000000)(c:Rat)(a:List Rat)(hl:a.length≤1000)(hc:QS s c)(ha:∀i,QS s (a.getD i 0)):aG Tryz.prog 200 [aQ c,cS .q a] (cS .q (eo (oz c a))):=by refine aX Tryz.func200 ae ae ae ae ae ak ?_;have hz:=N8 a.length hl;have C6:=UU hs (List.replicate a.length 0) c a 0 O5 (by rw[jy];exact hl) (λi=>by rw[N9];exact QS.zero h1) hc ha;rw[aoU]at C6;have ht:=Jx (oz c a) (by unfold oz;rw[dM];omega);refine rr ae (rb (w9 ae ae hz (re ae (rb (n9 1002000 ae C6 ae ae (re ae ?_))))));exact fY 1002000 ae ae ae (rb (rc ae ae ht (re ae (aF (aL ar ae (au.refl _))))))
def adT{s:Nat}(hs:s≤1000000000)(a:List Rat)(h0:a≠[])(hl9:a.length≤1000)(hn:a.getD (a.length-1) 0≠0)(ha:QS s (a.getD (a.length-1) 0)):aG Tryz.prog 201 [cS .q a] (aQ (a.getD (a.length-1) 0)⁻¹):=by
 refine aX Tryz.func201 ae ae ae ae ae ak ?_;have hl:=cZ.2 h0;have e1:((a.length:Int)-1).toNat=a.length-1:=af;have hi:aG Tryz.prog 252 [aQ (a.getD ((a.length:Int)-1).toNat 0)] (.t [(true,av .q (a.getD (a.length-1) 0)⁻¹),(false,[.I .i64 0])]):=by rw[e1];exact TX _ (λe=>hn (C5 e)) (ha.n.sm af) (ha.d.sm af)
 refine rr ae (aj (rr ae (ax ae (λh=>?_) (λh=>aC (ai ?_)))))
 ·have h:(a.length:Int)=0:=eq_of_beq h;exact absurd h af
 refine rb (rc ae ae hi (re ae (rr ae (aF (aL ar ae (au.refl _))))) (hp:=aN))
def adU{s:Nat}(h1:1≤s)(hs:s≤1000000000)(a:List Rat)(h0:a≠[])(hl:a.length≤1000)(hn:a.getD (a.length-1) 0≠0)(ha:∀i,QS s (a.getD i 0))(C7:QS s (a.getD (a.length-1) 0)⁻¹):aG Tryz.prog 199 [cS .q a] (cS .q (eo (oz (a.getD (a.length-1) 0)⁻¹ a))):=by
 refine aX Tryz.func199 ae ae ae ae ae ak ?_;have hlp:=cZ.2 h0;have e1:((a.length:Int)-1).toNat=a.length-1:=af;have hi:aG Tryz.prog 252 [aQ (a.getD ((a.length:Int)-1).toNat 0)] (.t [(true,av .q (a.getD (a.length-1) 0)⁻¹),(false,[.I .i64 0])]):=by rw[e1];exact TX _ (λe=>hn (C5 e)) ((ha _).n.sm af) ((ha _).d.sm af)
 refine rr ae (aj (rr ae (ax ae (λh=>?_) (λh=>aC (ai ?_)))))
 ·have h:(a.length:Int)=0:=eq_of_beq h;exact absurd h af
 refine rb (rc ae ae hi (re ae (rb (rc ae ae (UW h1 hs _ a hl C7 ha) (re ae (aF (aL ar ae (au.refl _))))))) (hp:=aN))
def QS.inv{s:Nat}{a:Rat}(h:QS s a)(h0:a≠0):QS s a⁻¹ :=by
 have hn:a.num≠0:=λe=>h0 (C5 e)
 rw[Rat.inv_def];have hp:=HW (a.den:Int) a.num hn;have hg:Int.gcd (a.den:Int) a.num=1:=by rw[Int.gcd_comm];exact a.reduced
 rw[hg]at hp;by_cases xA:a.num<0
 ·rw[aw xA,show-(((1:Nat):Int))= -1 from ae,DM,zD,DM,zD]at hp;exact⟨by rw[hp.1];exact h.d.neg,by rw[hp.2];exact h.n.neg⟩
 ·rw[aq xA,show(((1:Nat):Int))=1 from ae,zD,zD]at hp;exact⟨by rw[hp.1];exact h.d,by rw[hp.2];exact h.n⟩
def nl(a:List Rat):List Rat:=(List.range (a.length-1)).map λi=>(((i+1:Nat):Int):Rat)*a.getD (i+1) 0
def adV(a):(nl a).length=a.length-1:=by simp[nl]
def adW{a:List Rat}{i:Nat}(h:i<a.length-1):(nl a).getD i 0=(((i+1:Nat):Int):Rat)*a.getD (i+1) 0:=by unfold nl;rw[aU,kc,oI h];rfl
def aoW{L:List Rat}{i n:Nat}(hL:L.length=n)(h:i<n):(L.take i++List.replicate (n-i) 0).set i (L.getD i 0)=L.take (i+1)++List.replicate (n-(i+1)) 0:=by have hl:(L.take i).length=i:=cT;rw[qi _ _ af,hl,iw,show n-i=(n-(i+1))+1 by omega,wC,DF,Kk af,np,aU,cr af];rfl
set_option maxRecDepth 100000 in
set_option maxHeartbeats 4000000 in
def aoX{s:Nat}(h1:1≤s)(hs:s≤1000000000)(a:List Rat)(hl:a.length≤1000)(ha:∀i,QS s (a.getD i 0)):aG Tryz.prog 196 [cS .q a] (cS .q (eo (nl a))):=by
 refine aX Tryz.func196 ae ae ae ae ae ak ?_;refine rr ae (aj (rr ae (ax ae (λh=>?_) (λh=>aC (ai ?_)))))
 ·have h:(a.length:Int)=0:=eq_of_beq h;have h:a=[]:=iu af;subst h;exact rr ae (aF (bS (aL ar ae (au.nil _))))
 have h:0<a.length:=by have h:(a.length:Int)≠0:=kU h;omega
 obtain⟨n,hn⟩:∃n,a.length=n+1:=⟨a.length-1,by omega⟩;have en:(a.length:Int)-1=(n:Int):=af;have hz:=N8 n af;rw[←en]at hz;have Nd:=adV a;have ht:=Jx (nl a) af;refine rb (w9 ae ae hz (re ae ?_) (hp:=aN));refine aj (rr ae ?_);rw[jy];refine aH (bA (α:=Nat) (λi=>⟨[(0,cS .q a),(3,.c (.X 2003000)),(13,cI n),(14,cI i)],[(2003000,.vec 46 .q ((nl a).take i++List.replicate (n-i) 0))],5,[]⟩) (λi=>i≤n) (λi=>n-i) 0 (bK _) (wk ⟨sR ae,sR ae,sR ae,sR ae,ah⟩ ⟨bE ae ae,ah⟩) ?_);intro i hi;refine rr ae (aj (ax ae (λh2=>?_) (λh2=>?_)))
 ·have h2:i<n:=by have h2:(i:Int)<(n:Int):=a9 h2;omega
  have tj:((nl a).take i++List.replicate (n-i) (0:Rat)).length=n:=cT;have e1:((i:Int)+1)=((i+1:Nat):Int):=rfl;have e2:((i:Int)+1).toNat=i+1:=af;have hw:=Nm ((i:Int)+1) af af;have hm:=TZ (((i:Int)+1:Int):Rat) (a.getD ((i:Int)+1).toNat 0) (QS.int h1 af) (ha _) af;refine aC (ai (aj (aH (rr ae (cK (rc ae ae hw (rc ae ae hm (lV ((((i:Int)+1:Int):Rat)*a.getD ((i:Int)+1).toNat 0) ae ae ae ae ae ?_ (re ae (a6 (ai (rt ae (hp:=aN) (a8 (i+1) h2 Pc (wk ⟨sR ae,sR ae,sR ae,sR ae,ah⟩ ⟨bE ae ?_,ah⟩)))))) (hp:=?_)) (hp:=?_)) (hp:=aN)))))))
  ·show((i:Int)).toNat<_;rw[tj];omega
  ·refine ay (aK.vec 46 .q) ?_;show((nl a).take i++List.replicate (n-i) (0:Rat)).set ((i:Int)).toNat ((((i:Int)+1:Int):Rat)*a.getD ((i:Int)+1).toNat 0)=_;rw[bu,e2];have:=aoW (L:=nl a) (n:=n) af h2;rwa[adW af]at this
  ·show 0≤(i:Int)∧(i:Int)<(((nl a).take i++List.replicate (n-i) (0:Rat)).length:Int);rw[tj];omega
  ·simp only[Pr.an,Pr.h,num,aA,true_and,and_true];omega
 ·have h2:i=n:=by have h2:¬(i:Int)<(n:Int):=bC h2;omega
  subst h2;rw[iw,wD,kB,lI af];exact bh (bt (bq (bp (ai (fY 2003000 ae ae ae (rb (rc ae ae ht (re ae (aF (aL ar ae (au.refl _)))))))))))
def A5(a:List Rat)(M:Nat):List Rat:=a++List.replicate (M-a.length) 0
def Oa{a:List Rat}{M:Nat}(h:a.length≤M):(A5 a M).length=M:=by simp[A5];omega
def adX(a:List Rat)(M i:Nat):(A5 a M).getD i 0=a.getD i 0:=by
 unfold A5;rw[aU,aU];by_cases h:i<a.length
 ·rw[Gt h]
 ·rw[zu af,nn (l:=a) af,mU];split<;>rfl
def uK(a:List Rat)(c:Rat)(b:List Rat):List Rat:=ow (A5 a (max a.length b.length)) c b 0
set_option maxRecDepth 100000 in
set_option maxHeartbeats 4000000 in
def aoY{s:Nat}(h1:1≤s)(hs:s≤1000000000)(a:List Rat)(c:Rat)(b:List Rat)(la:a.length≤1000)(lb:b.length≤1000)(aR:0<max a.length b.length)(ha:∀i,QS s (a.getD i 0))(hc:QS s c)(hb:∀i,QS s (b.getD i 0)):aG Tryz.prog 254 [cS .q a,aQ c,cS .q b,cI 0] (cS .q (eo (uK a c b))):=by
 refine aX Tryz.func254 ae ae ae ae ae ak ?_;generalize hM:max a.length b.length=M at*;have hM1:M≤1000:=af;have hz:=N8 M hM1;have C6:=UU hs (A5 a M) c b 0 (by rw[Oa af];omega) (by rw[Oa af];exact hM1) (λi=>by rw[adX];exact ha i) hc hb;have ht:=Jx (uK a c b) (by rw[uK,ow,pf,hM,Oa af];omega);have e:uK a c b=ow (A5 a M) c b 0:=by rw[uK,hM]
 rw[←e]at C6;have eM:(if(b.length:Int)+0>(a.length:Int)then(b.length:Int)+0 else(a.length:Int))=(M:Int):=by split<;>omega
 have g8:m9 Tryz.prog 245 [cI (if(b.length:Int)+0>(a.length:Int)then(b.length:Int)+0 else(a.length:Int))] 46 .q (List.replicate M 0):=by rw[eM];exact hz
 refine rr ae (rb (w9 ae ae g8 (re ae ?_)));refine rb (HJ ae ae ae ae ae O5 (λe=>by have:=ay List.length e;rw[jy]at this;simp at this;omega) (re ae ?_));rw[WN];change TR _ _ _ ⟨_,(_,.vec 46 .q (A5 a M))::_,_,_⟩ _;refine rb (n9 1007000 ae C6 ae ae (re ae ?_));exact fY 1007000 ae ae ae (rb (rc ae ae ht (re ae (aF (aL ar ae (au.refl _))))))
def aoZ{s:Nat}(h1:1≤s)(hs:s≤1000000000)(a b:List Rat)(la:a.length≤1000)(lb:b.length≤1000)(aR:0<max a.length b.length)(ha:∀i,QS s (a.getD i 0))(hb:∀i,QS s (b.getD i 0)):aG Tryz.prog 202 [cS .q a,cS .q b] (cS .q (eo (uK a (-1) b))):=by refine aX Tryz.func202 ae ae ae ae ae ak ?_;have hw:=Nm (-1) ak ak;have uo:=aoY h1 hs a (((-1:Int)):Rat) b la lb aR ha (QS.int h1 ak) hb;rw[show(((-1:Int)):Rat)= -1 from ae]at uo hw;exact rr ae (rb (rc ae ae hw (rc ae ae uo (re ae (aF (aL ar ae (au.refl _)))))))
end Go.El
namespace Go.El
open Go Go.RowKit Go.Proofs
section
variable{P:Program}{tt:List (Nat×TI)}
def ao0(aT:cM P tt=true){n new:Nat}{ops:Array Oper}{i:Nat}{o:Oper}(ho:ops[i]? =some o)(hg:o.guard=none){d:Nat}(hd:o.dst=some d)(aV:d<n){x y:Operand}{t1 t2:TypeId}(ck:o.op= .call ⟨.builtin .copy,#[x,y],#[t1,t2]⟩)
  {st:St} {id:Nat} {E E1:TypeId} {T:ET} {ei:TI} (hx:st.ev x=some (.c (.X id))) (hl:ao id st.mem=some (.vec E T [])) (hy:st.ev y=some (.c (.S T []))) (hT:Ez tt t1 t2=some (E1,ei)) (kR:ei.size=T.n):
  ll P n ops i st (st.put d (.c (.I .i64 0))) new (cH [x,y]++fB [id],[.s d]):=by
 refine⟨(dU st x++dU st y)++g7 st [id],[(.s d,some (.v (.c (.I .i64 0))))],?_,?_,n6 st d _,?_,λk hk=>by simpa[fi]using hk⟩
 ·refine ve ho hg hd aV _ _ new ?_;intro F known σ g W a aJ bw;have hT:=Ys aT hT;rw[kR]at hT;have lN:a.eval x=g.γ id:=gI aJ st x _ hx (λkx aS=>bw kx jw);have pJ:=gI aJ st y _ hy (λkx aS=>bw kx jw);have hσ:σ (.m id)=some (.b (.vec E T ([]:List T.den))):=bw (.m id,.b (.vec E T [])) uR;obtain⟨e2,nw⟩:=hT.u2;obtain⟨inf,z,lO,s9,yh,yi,Hv⟩:=hT.info;obtain⟨us,Ab,Rf,Aj,Hw⟩:=Yi (P:=P) (st:=st) (sz:=T.n) (y:= .c (.S T [])) (m:=0) (cs:=[]) (ids:=[]) aJ (by simp[Lw]) pJ (λid al=>by cases al) nw ae;have jc:us=[]:=Rf;subst jc;refine⟨λj hj=>(by cases hj),(.int .i64 0:Value),?_,ae⟩;have b7:(Builtin.copy_ #[t1,t2] o.type #[a.eval x,a.eval y]).run P W= .ok (.int .i64 0) W:=by
   rw[lN];have hc:=Ab.cells;rcases aJ.df id _ hσ with⟨hγ,_⟩|⟨b,cap,vs,hγ,hh,kS,pG,hlen,hr,hN,hz⟩
   ·rw[hγ];simp[Builtin.copy_,run_underlying hT.u1,sizeOf,typeInfo,lO,Ab.len,s9,hc,goInt,Sem.run,pure]
   ·rw[hγ];simp[Builtin.copy_,run_underlying hT.u1,sizeOf,typeInfo,lO,Ab.len,s9,hc,goInt,Sem.run,pure,storeCells]
  refine Lt ck (λcs=>?_);have e:(#[x,y]:Array Operand).map a.eval= #[a.eval x,a.eval y]:=be;rw[e];simp only[Go.builtin,Sem.run_bind,b7,Result.andThen];rfl
 ·intro kx aS;rcases b6.1 aS with h|h
  ·rcases b6.1 h with h|h
   ·exact gn _ x kx h
   ·exact gn _ y kx h
  ·exact rQ _ [id] kx h
 ·intro k hk;simp only[dT,eh,b6]at hk;rcases hk with(h|h)|h
  ·exact fS _ (fX st [x,y] k zk)
  ·exact fS _ (fX st [x,y] k zm)
  ·exact j9 _ (qC st [id] k h)
end
section
variable{n:Nat}{sl sl':List (Nat×AV)}{mem mem':List (Nat×aK)}{nx:Nat}{gd gd':List (Nat×Bool)}{ops:Array Oper}{draw:Bool}{p:Pr}{ks cp:List Ks}{i i' n0 cd:Nat}{os cG:List Oper}{d:Nat}{ty:TypeId}{pos:String}{cJ:Array Edge}{R:St→Prop}
def ao1{x y:Operand}{t1 t2:TypeId}{id:Nat}{E E1:TypeId}{T:ET}{ei:TI}(h:runs eC n nx draw ops.toList os i ⟨sl,mem,n0,gd⟩ .t ks=(⟨some d,.call ⟨.builtin .copy,#[x,y],#[t1,t2]⟩,ty,pos,cJ,none⟩::cG,i',⟨sl',mem',cd,gd'⟩,p,cp))
  (hx:St.ev ⟨sl',mem',cd,gd'⟩ x=some (.c (.X id))) (hl:ao id mem'=some (.vec E T [])) (hy:St.ev ⟨sl',mem',cd,gd'⟩ y=some (.c (.S T []))) (hT:Ez eC t1 t2=some (E1,ei))
  (hk:RG Tryz.prog n ops draw nx (i'+1) cG ⟨(d,.c (.I .i64 0))::sl',mem',cd,gd'⟩ (fp draw cp (cH [x,y]++fB [id],[.s d])) R) (kR:ei.size=T.n:=by rfl)
  (hp:p:=by first|trivial| (simp only[Pr.an,Pr.h,num,aA,true_and,and_true];first|done|omega)| (simp[Pr.an,Pr.h,num,aA];done)| (simp[Pr.an,Pr.h,num,aA];omega)) (aV:Nat.blt d n=true:=by rfl):RG Tryz.prog n ops draw nx i os ⟨sl,mem,n0,gd⟩ ks R:=
 jE ar h hp (kT (λho=>ao0 ar ho ae ae (cY aV) ae hx hl hy hT kR) (jD hk))
end
end Go.El
