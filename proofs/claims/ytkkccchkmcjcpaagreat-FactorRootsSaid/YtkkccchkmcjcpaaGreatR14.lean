/- Contract: irreducible. Own work; no condition. -/
import Derived.Test.YtkkccchkmcjcpaaGreatR13
import Derived.Test.YtkkccchkmcjcpaaGreatR9
import Derived.Test.YtkkccchkmcjcpaaGreatR11
import Derived.Test.YtkkccchkmcjcpaaGreatR5
import Derived.Test.YtkkccchkmcjcpaaGreatR10
set_option linter.defProp false
set_option linter.unusedVariables false
set_option linter.unusedSimpArgs false
set_option linter.unnecessarySimpa false
namespace Go.El
open Go Go.Proofs
def U8(a:List Rat)(h:∀i,QS 20 (a.getD i 0)):∀i,aU (20*i+1) ((jW a i:Nat):Int)
 |0=>aU.one (a:=1) ak
 |i+1=>by have h1:=U8 a h i;have h2:=(h i).d;have h3:jW a (i+1)≤jW a i*(a.getD i 0).den:=lE _ (Df _ _);have h4:=h1.mul h2;rw[←gq]at h4;unfold aU at*;rw[oV]at*;rw[show 20*(i+1)+1=20*i+1+20 by omega];omega
def oS{α:Type}(f:Nat→α)(d:α)(n j:Nat):List α:=(List.range n).map λk=>if n≤k+j then f k else d
def aeU{α:Type}(f:Nat→α)(d:α)(n j:Nat):(oS f d n j).length=n:=by simp[oS]
def aeV{α:Type}(f:Nat→α)(d:α)(n:Nat):List.replicate n d=oS f d n 0:=by
 refine nP (by simp[oS]) λi h1 h2=>?_
 simp[oS]at h2⊢;omega
def aeW{α:Type}(f:Nat→α)(d:α){n j:Nat}(h:j<n):(oS f d n j).set (n-1-j) (f (n-1-j))=oS f d n (j+1):=by
 refine nP (by simp[oS]) λi h1 h2=>?_
 rw[List.getElem_set];simp only[oS,si,A0];simp only[oS,dJ,A1]at h2;by_cases e:n-1-j=i
 ·subst e;rw[aw ae,aw af]
 ·rw[aq e];by_cases h3:n≤i+j
  ·rw[aw h3,aw af]
  ·rw[aq h3,aq af]
def aeX{α:Type}(f:Nat→α)(d:α)(n:Nat):oS f d n n=(List.range n).map f:=by
 refine nP (by simp[oS]) λi h1 h2=>?_
 simp[oS]
def U9{g:List Int}:∀{l:List (List Int)},g∈l→Rx.zx g∣Rx.rY l
 |f::l,h=>by
  rw[Rx.rY];rcases dx.1 h with rfl|h
  ·exact Rx.dvd_mul_right _ _
  ·exact Rx.fg (U9 h) _
def aeY:∀{l:List (List Int)},(∀g∈l,Rx.cp (Rx.zx g))→Rx.rY l≠0∧l.length+1≤Rx.sz (Rx.rY l)
 |[],_=>⟨Rx.n6,by rw[Rx.rY,Rx.oK];exact bF _⟩
 |g::l,h=>by
  obtain⟨i1,i2⟩:=aeY (l:=l) λx hx=>h x lC
  have hg:=h g be;have:=Rx.eK hg.ne i1;have:=hg.1;rw[Rx.rY];exact⟨Rx.oJ hg.ne i1,by rw[fk];omega⟩
def aeZ{a:List Int}(h:oq a):(uD a).length≤8∧∀g∈uD a,bQ g∧g.length≤9∧∀i,aU 8 (g.getD i 0):=by
 obtain⟨h1,h2⟩:=aei h;have hs:=Rx.mL h.am.can;have l9:=h.l9;refine⟨?_,λg hg=>⟨(h1 g hg).1,?_,λi=>?_⟩⟩
 ·have:=(aeY λg hg=>(h1 g hg).2).2;rw[h2]at this;omega
 ·have hd:=U9 hg;rw[h2]at hd;have:=Rx.kD hd (Rx.oe h.am).ne;rw[Rx.mL (h1 g hg).1.can]at this;omega
 ·have hd:=U9 hg;rw[h2]at hd;have h3:=aeb h.am (h1 g hg).1 hd i;have h4:=h.bB;unfold aU at*;rw[oV]at h4;omega
set_option maxRecDepth 100000 in
set_option maxHeartbeats 16000000 in
def aqv{a:List Rat}(h:pO a)(hq:∀i,QS 20 (a.getD i 0)):aG Tryz.prog 135 [cS .q a] (cS (.sl .q) (vV a)):=by
 refine aX Tryz.func135 ae ae ae ae ae ak ?_;have l2:=h.l2;have l9:=h.l9;refine rr ae (rb (rc ae ae (oH 1 ak ak) (re ae (aj (rr ae ?_)))));refine aK (bA (α:=Nat) (λi=>⟨[(0,cS .q a),(3,.c (.P 1001000 0)),(20,cS .q a),(21,cI a.length),(22,cI i)],[(1001000,.box 44 0 (av .z ((jW a i:Nat):Int)))],3,[]⟩) (λi=>i≤a.length) (λi=>a.length-i) 0 (bK _) (wk ⟨sR ae,sR ae,sR ae,sR ae,sR ae,ah⟩ ⟨bE ae ae,ah⟩) ?_);intro i hi;refine rr ae (aj (ax ae (λh1=>?_) (λh1=>?_)))
 ·have h1:i<a.length:=by have h1:(i:Int)<(a.length:Int):=bc h1;omega
  have ei:((i:Int)).toNat=i:=bw i;have hB:=U8 a hq i;have hd:=(hq i).d;have IJ:0<(a.getD i 0).den:=(a.getD i 0).den_pos;have hg:=abb ((jW a i:Nat):Int) ((a.getD ((i:Int)).toNat 0).den:Int) (hB.sm af) ((hq _).d.sm af);rw[ei]at hg;have ny:Int.gcd ((jW a i:Nat):Int) ((a.getD i 0).den:Int)=Nat.gcd (jW a i) (a.getD i 0).den:=rfl;rw[ny]at hg;have hgp:0<Nat.gcd (jW a i) (a.getD i 0).den:=Nat.gcd_pos_of_pos_right _ IJ;have qv:=wP ((a.getD i 0).den:Int) ((Nat.gcd (jW a i) (a.getD i 0).den:Nat):Int) af (hd.sm af) (by
   have h3:Nat.gcd (jW a i) (a.getD i 0).den≤(a.getD i 0).den:=rf IJ (Wa _ _);have h4:aU 20 ((Nat.gcd (jW a i) (a.getD i 0).den:Nat):Int):=by unfold aU at*;rw[oV]at*;omega
   exact h4.sm af)
  have sT:=tY ((jW a i:Nat):Int) (((a.getD i 0).den:Int)/((Nat.gcd (jW a i) (a.getD i 0).den:Nat):Int)) (hB.sm af) ((hd.ediv af af).sm af);have hen:((jW a i:Nat):Int)*(((a.getD i 0).den:Int)/((Nat.gcd (jW a i) (a.getD i 0).den:Nat):Int))=((jW a (i+1):Nat):Int):=by rw[jW,gq,A2]
  rw[hen]at sT;refine aC (ai (aj (aK (rr ae ?_ (hp:=aR)))));rw[ei];refine rb (rc ae ae hg (rc ae ae qv (re ae ?_)));refine cG (rc ae ae sT (re ae (a7 (ai (rt ae (hp:=aR) (a8 (i+1) h1 pQ (wk ⟨sR ae,sR ae,sR ae,sR ae,sR ae,ah⟩ ⟨bE ae ae,ah⟩)))))))
 ·have h1:i=a.length:=by have h1:¬(i:Int)<(a.length:Int):=bC h1;omega
  subst h1;refine bp (bu (br (bq (ai ?_))));have hB:=U8 a hq a.length;have Va:aU 181 ((dX a:Nat):Int):=hB.le af;have Bj:0<dX a:=N7 a _;have aV:jW a a.length=dX a:=rfl;rw[aV];clear hB aV hi;generalize hn:a.length-1=n;have z':∀k,k≤10→aU 2000 (((dX a:Nat):Int)^k):=λk hk=>(Va.pow k).le (by have:=lE 181 hk;omega)
  obtain⟨F,hF⟩:∃F:Nat→Int,F=λk=>(a.getD k 0).num*((dX a:Nat):Int)^(a.length-1-k)/((a.getD k 0).den:Int):=⟨_,ae⟩
  have ns:oS F 0 a.length a.length=pN a:=by rw[aeX,hF];rfl
  refine rr ae (rb (rm .z a.length ae ae ae ae ae ae BG ?_ ?_ ?_ (re ae ?_)))
  ·show(a.length:Int)-1+1=(a.length:Int);omega
  ·show a.length*32≤_;omega
  ·show a.length*2≤_;omega
  refine rb (rc ae ae (oH 1 ak ak) (re ae (aj (rr ae ?_))));refine aK (bA (α:=Nat) (λj=>⟨[(0,cS .q a),(3,.c (.P 1001000 0)),(10,.c (.X 5002000)),(11,.c (.P 6001000 0)),(12,cI ((n:Int)-j))],[(1001000,.box 44 0 (av .z ((dX a:Nat):Int))),(5002000,.vec 44 .z (oS F 0 a.length j)),(6001000,.box 44 0 (av .z (((dX a:Nat):Int)^j)))],8,[]⟩) (λj=>j≤a.length) (λj=>a.length-j) 0 (bK _) (wk ⟨sR ae,sR ae,sR ae,sR ae,sE ae ?_,ah⟩ ⟨bR ae,bE ae ?_,bE ae ae,ah⟩) ?_)
  ·exact az cI af
  ·rw[aeV]
  intro j hj;refine aj (rr ae (ax ae (λh1=>?_) (λh1=>?_)))
  ·have h1:j<a.length:=by have h1:(n:Int)-(j:Int)≥0:=bc h1;omega
   have ei:((n:Int)-(j:Int)).toNat=a.length-1-j:=af;have ej:a.length-1-(a.length-1-j)=j:=af;have AH:=z' j af;have yF:=hq ((n:Int)-(j:Int)).toNat;have sT:=tY (a.getD ((n:Int)-(j:Int)).toNat 0).num (((dX a:Nat):Int)^j) (yF.n.sm af) (AH.sm af);have IJ:0<(a.getD ((n:Int)-(j:Int)).toNat 0).den:=(a.getD ((n:Int)-(j:Int)).toNat 0).den_pos;have qv:=wP ((a.getD ((n:Int)-(j:Int)).toNat 0).num*((dX a:Nat):Int)^j) ((a.getD ((n:Int)-(j:Int)).toNat 0).den:Int) af ((yF.n.mul AH).sm af) (yF.d.sm af);have Vb:F ((n:Int)-(j:Int)).toNat=(a.getD ((n:Int)-(j:Int)).toNat 0).num*((dX a:Nat):Int)^j/((a.getD ((n:Int)-(j:Int)).toNat 0).den:Int):=by rw[hF];show _*_^(a.length-1-((n:Int)-(j:Int)).toNat)/_=_;rw[show a.length-1-((n:Int)-(j:Int)).toNat=j by omega]
   rw[←Vb]at qv;have mz:=tY (((dX a:Nat):Int)^j) ((dX a:Nat):Int) (AH.sm af) (Va.sm af);rw[←fO]at mz;have lM:=aeU F 0 a.length j;refine aC (ai (aj (aK (rb ?_))));refine rc ae ae sT ?_ (hp:=aR);refine rc ae ae qv ?_ (hp:=aR);refine lO (T:= .z) (F ((n:Int)-(j:Int)).toNat) ae ae ae ae ae ?_ (re ae ?_) (hp:=?_)
   ·rw[lM];omega
   ·refine cG (rc ae ae mz (re ae (a7 (ai (rt ae (a8 (j+1) h1 VQ (wk ⟨sR ae,sR ae,sR ae,sR ae,sE ae ?_,ah⟩ ⟨bR ae,bE ae ?_,bE ae ae,ah⟩)))))))
    ·exact az cI af
    ·rw[ei,aeW F 0 h1]
   ·simp only[Pr.an,Pr.h,num,aA,true_and,and_true];rw[lM];omega
  ·have h1:j=a.length:=by have h1:¬(n:Int)-(j:Int)≥0:=bC h1;omega
   subst h1;refine bp (bu (br (bq (ai ?_))));rw[ns];have hmf:=aqt h.mf;obtain⟨hg8,qw⟩:=aeZ h.mf;have ae0:vV a=(uD (pN a)).map (l8 (dX a)):=rfl;rw[ae0];generalize uD (pN a)=gs at*;generalize pN a=fa at*;clear hF ns ae0;refine dv (oC 5002000 ae) (rr ae (aj (rb (rc ae ae hmf (re ae ?_)))));refine aK (bA (α:=Nat) (λi=>⟨[(3,.c (.P 1001000 0)),(13,.c (.X 20000000)),(77,cS (.sl .z) gs),(78,cI gs.length),(79,cI i)],[(20000000,.vec 40 (.sl .q) ((gs.take i).map (l8 (dX a)))),(1001000,.box 44 0 (av .z ((dX a:Nat):Int)))],30,[]⟩) (λi=>i≤gs.length) (λi=>gs.length-i) 0 (bK _) ?_ ?_)
   ·exact s9 20000000 40 (.sl .q) ⟨.inl (sR ae),.inr ⟨ae,ae⟩,.inl (sR ae),.inl (sR ae),.inl (sE ae ae),ah⟩ ⟨bR ae,ah⟩ ae (eO.of ae)
   intro i hi;refine rr ae (aj (ax ae (λh1=>?_) (λh1=>?_)))
   ·have h1:i<gs.length:=by have h1:(i:Int)<(gs.length:Int):=bc h1;omega
    have tR:(gs.getD ((i:Int)).toNat (ET.kU (.sl .z)))=gs.getD i []:=az (λz=>gs.getD z []) (bw i);obtain⟨g1,g2,g3⟩:=qw (gs.getD i []) JJ;have CV:gs.take (i+1)=gs.take i++[gs.getD i []]:=by rw[wc,aY,ct h1];rfl
    refine aC (ai (aj (aK (rr ae ?_ (hp:=aR)))));rw[tR];generalize gs.getD i []=g at*;have jr:=cX.2 g1.1;have tM:i+1≤gs.length:=h1;have ati:((gs.take i).map (l8 (dX a))).length≤8:=by rw[dJ,fD];omega
    obtain⟨u,hu⟩:∃u:Nat→Rat,u=λk=>Rat.divInt (g.getD k 0) (((dX a:Nat):Int)^(g.length-1-k)):=⟨_,ae⟩
    have aqy:(oS (λk=>qz (u k)) (0,0) g.length g.length)=(l8 (dX a) g).map qz:=by rw[aeX,hu,l8,List.map_map];rfl
    refine rb (rm ZZ g.length ae ae ae ae ae ae KV ae ?_ ?_ (re ae ?_))
    ·show g.length*64≤_;omega
    ·show g.length*4≤_;omega
    refine rb (rc ae ae (oH 1 ak ak) (re ae (aj (rr ae ?_))));refine aK (bA (α:=Nat) (λj=>⟨[(3,.c (.P 1001000 0)),(13,.c (.X 20000000)),(77,cS (.sl .z) gs),(78,cI gs.length),(79,cI i),(15,cS .z g),(16,.c (.X 32002000)),(17,.c (.P 33001000 0)),(18,cI ((g.length:Int)-1-j))],[(20000000,.vec 40 (.sl .q) ((gs.take i).map (l8 (dX a)))),(1001000,.box 44 0 (av .z ((dX a:Nat):Int))),(32002000,.vec 46 ZZ (oS (λk=>qz (u k)) (0,0) g.length j)),(33001000,.box 44 0 (av .z (((dX a:Nat):Int)^j)))],40,[]⟩) (λj=>j≤g.length) (λj=>g.length-j) 0 (bK _) (wk ⟨sR ae,sR ae,sR ae,sR ae,sR ae,sR ae,sR ae,sR ae,sE ae ?_,ah⟩ ⟨bR ae,bR ae,bE ae ?_,bE ae ae,ah⟩) ?_)
    ·exact az cI af
    ·rw[aeV]
    intro j hj;refine aj (rr ae (ax ae (λh1=>?_) (λh1=>?_)))
    ·have h1:j<g.length:=by have h1:(g.length:Int)-1-(j:Int)≥0:=bc h1;omega
     have ei:((g.length:Int)-1-(j:Int)).toNat=g.length-1-j:=af;have AH:=z' j af;have aqz:0<((dX a:Nat):Int)^j:=sn af;have aN:=alX (g.getD ((g.length:Int)-1-(j:Int)).toNat 0) (((dX a:Nat):Int)^j) aqz ((g3 _).sm af) (AH.sm af);have Vb:Rat.divInt (g.getD ((g.length:Int)-1-(j:Int)).toNat 0) (((dX a:Nat):Int)^j)=u ((g.length:Int)-1-(j:Int)).toNat:=by rw[hu];show _=Rat.divInt _ (_^(g.length-1-((g.length:Int)-1-(j:Int)).toNat));rw[show g.length-1-((g.length:Int)-1-(j:Int)).toNat=j by omega]
     rw[Vb]at aN;have mz:=tY (((dX a:Nat):Int)^j) ((dX a:Nat):Int) (AH.sm af) (Va.sm af);rw[←fO]at mz;have lM:=aeU (λk=>qz (u k)) (0,0) g.length j;refine aC (ai (aj (aK (rb ?_))));refine rc ae ae aN ?_ (hp:=aR);refine lO (T:=ZZ) (qz (u ((g.length:Int)-1-(j:Int)).toNat)) ae ae ae ae ae ?_ (re ae ?_) (hp:=?_)
     ·rw[lM];omega
     ·refine cG (rc ae ae mz (re ae (a7 (ai (rt ae (a8 (j+1) h1 (by show g.length-(j+1)<g.length-j;omega) (wk ⟨sR ae,sR ae,sR ae,sR ae,sR ae,sR ae,sR ae,sR ae,sE ae ?_,ah⟩ ⟨bR ae,bR ae,bE ae ?_,bE ae ae,ah⟩)))))))
      ·exact az cI af
      ·rw[ei,aeW (λk=>qz (u k)) (0,0) h1]
     ·simp only[Pr.an,Pr.h,num,aA,true_and,and_true];rw[lM];omega
    ·have h1:j=g.length:=by have h1:¬(g.length:Int)-1-(j:Int)≥0:=bC h1;omega
     subst h1;refine bp (bu (br (bq (ai ?_))));rw[aqy];refine dv (st':=⟨[(3,.c (.P 1001000 0)),(13,.c (.X 20000000)),(77,cS (.sl .z) gs),(78,cI gs.length),(79,cI i),(16,.c (.X 32002000))],[(20000000,.vec 40 (.sl .q) ((gs.take i).map (l8 (dX a)))),(1001000,.box 44 0 (av .z ((dX a:Nat):Int))),(32002000,.vec 46 .q (l8 (dX a) g))],41,[]⟩) (wk ⟨sR ae,sR ae,sR ae,sR ae,sR ae,sR ae,ah⟩ ⟨bR ae,bR ae,⟨_,ae,IZ 46 _⟩,ah⟩) (dv (oC 32002000 ae) ?_);refine cG (rl (.sl .q) [l8 (dX a) g] ae ae (ra ae ae ae ae ae ae ae ae ae ?_ ?_ (re ae (a7 (ai (rt ae (hp:=aR) (a8 (i+1) tM (by show gs.length-(i+1)<gs.length-i;omega) (Wk.trans (wk (st':=⟨[(3,.c (.P 1001000 0)),(13,.c (.X 41003000)),(77,cS (.sl .z) gs),(78,cI gs.length),(79,cI (i+1:Nat))],[(41003000,.vec 40 (.sl .q) ((gs.take (i+1)).map (l8 (dX a)))),(1001000,.box 44 0 (av .z ((dX a:Nat):Int)))],43,[]⟩) ⟨sR ae,sR ae,sR ae,sR ae,sR ae,ah⟩ ⟨bE ae ?_,bR ae,ah⟩) (Wk.trans (qq 20000000 41003000 ae ae ae) ck)))))))))
     ·show(((gs.take i).map (l8 (dX a))).length+1+(((gs.take i).map (l8 (dX a))).length+1)/4+192)*24≤_;omega
     ·show(((gs.take i).map (l8 (dX a))).length+1)*1≤_;omega
     ·rw[CV,dZ];rfl
   ·have h1:i=gs.length:=by have h1:¬(i:Int)<(gs.length:Int):=bC h1;omega
    subst h1;rw[iV];exact bp (bu (br (bq (ai (dv (oC 20000000 ae) (rr ae (aF (aL ar ae (au.refl _)))))))))
def xq(a b:List Rat):Nat→Int
 |0=>0
 |i+1=>if iz (a.getD i 0) (b.getD i 0)≠0 then iz (a.getD i 0) (b.getD i 0)else xq a b i
def yU(a b:List Rat):Int:=if a.length≠b.length then lh a.length b.length else xq a b a.length
def aqA{w:Nat}(hw:w≤100000)(a b:List Rat)(la:a.length≤1000)(lb:b.length≤1000)(ha:∀i,QS w (a.getD i 0))(hb:∀i,QS w (b.getD i 0)):aG Tryz.prog 138 [cS .q a,cS .q b,lW 79] (cI (yU a b)):=by
 refine aX Tryz.func138 ae ae ae ae ae ak ?_;refine rr ae (aj (rr ae (ax ae (λh=>?_) (λh=>aC (ai ?_)))))
 ·have h:a.length≠b.length:=λe=>by simp[e]at h
  refine rb (rc ae ae (aaW a.length b.length) (re ae (aF (bW (aL ar ae (au.of_eq ?_))))));rw[yU,aw h]
 ·have h:a.length=b.length:=by have:(a.length:Int)=(b.length:Int):=cd;omega
  have hL:yU a b=xq a b a.length:=by rw[yU,aq (λe=>e h)]
  rw[hL];refine aj (rr ae (aK (bA (α:=Nat) (λi=>⟨[(0,cS .q a),(1,cS .q b),(2,lW 79),(7,cI ((i:Int)-1))],[],3,[]⟩) (λi=>i≤a.length∧xq a b i=xq a b a.length) (λi=>i) a.length ⟨bF _,ae⟩ ck ?_)));rintro i ⟨hi,hr⟩;refine aj (rr ae (ax ae (λh1=>?_) (λh1=>?_)))
  ·have h1:0<i:=by have h1:(i:Int)-1≥0:=bc h1;omega
   obtain⟨i,rfl⟩:∃k,i=k+1:=⟨i-1,by omega⟩;have ei:(((i+1:Nat):Int)-1).toNat=i:=af;have hc:aG Tryz.prog 79 ([]++([aQ (a.getD (((i+1:Nat):Int)-1).toNat 0),aQ (b.getD (((i+1:Nat):Int)-1).toNat 0)]++[])) (cI (iz (a.getD i 0) (b.getD i 0))):=by rw[ei];exact abk _ _ (ha _) (hb _) af
   rw[xq]at hr;refine aC (ai (aj (aK (rb (Ce ae ae (.inl ⟨ae,ae,ae⟩) ae hc (re ae (rr ae (ax ae (λh2=>?_) (λh2=>?_)))) (hp:=aR))))))
   ·have h2:iz (a.getD i 0) (b.getD i 0)≠0:=λe=>by rw[e]at h2;simp at h2
    rw[aw h2]at hr;rw[←hr];exact rr ae (aF (fC (bW (ix (fC (bW (aL ar ae (au.refl _))))))))
   ·have h2:iz (a.getD i 0) (b.getD i 0)=0:=by generalize iz (a.getD i 0) (b.getD i 0)=z at*;simpa using h2
    rw[aq (λe=>e h2)]at hr;refine aC (a7 (ai (rt ae (hp:=aR) (a8 i ⟨by omega,hr⟩ (by show i<i+1;omega) (wk ⟨sR ae,sR ae,sR ae,sE ae ?_,ah⟩ ah)))));exact az cI af
  ·have h1:i=0:=by have h1:¬(i:Int)-1≥0:=bC h1;omega
   subst h1;rw[←hr];exact bp (bu (br (bq (ai (rr ae (aF (aL ar ae (au.refl _))))))))
abbrev eZ:List Rat×Int:=([],0)
def mb(x y:List Rat×Int):Int:=yU x.1 y.1
structure xr(w:Nat)(x:List Rat×Int):Prop where
 l:x.1.length≤1000
 q:∀i,QS w (x.1.getD i 0)
def aqB{w:Nat}(hw:w≤100000)(x y:List Rat×Int)(hx:xr w x)(hy:xr w y):aG Tryz.prog 137 ([]++([.a (av UT x),.a (av UT y)]++[])) (cI (mb x y)):=by refine aX Tryz.func137 ae ae ae ae ae ak ?_;exact rr ae (rb (rc ae ae (aqA hw x.1 y.1 hx.l hy.l hx.q hy.q) (re ae (aF (aL ar ae (au.refl _))))))
def ae1(x:List Rat×Int):jn (.a (List.take 2 (List.drop 0 (av UT x))))=some (av UT x):=by rcases x with⟨a,b⟩;rfl
set_option maxRecDepth 100000 in
set_option maxHeartbeats 4000000 in
def aqC{w:Nat}(hw:w≤100000)(xs:List (List Rat×Int))(hl:xs.length≤12)(hx:∀x∈xs,xr w x):mZ Tryz.prog 259 [.c (.X 0),cI 0,cI xs.length,lW 137] 80 UT xs (.t []) (jd eZ mb xs (xs.length-1)):=by
 refine qt Tryz.func259 ae ae ae ae ae ak ?_;refine rr ae ?_;refine aK (bA (α:=Nat) (λi=>⟨[(0,.c (.X 0)),(1,cI 0),(2,cI xs.length),(3,lW 137),(8,cI i)],[(0,.vec 80 UT (jd eZ mb xs (i-1)))],2,[]⟩) (λi=>1≤i∧i-1≤xs.length-1) (λi=>xs.length-i) 1 ⟨bF _,bK _⟩ (wk ⟨sR ae,sR ae,sR ae,sR ae,sR ae,ah⟩ ⟨bE ae ae,ah⟩) ?_);rintro i ⟨tM,hi⟩;refine aj (rr ae (ax ae (λh=>?_) (λh=>?_)))
 ·have h:i<xs.length:=by have h:(i:Int)<(xs.length:Int):=bc h;omega
  have hS:jd eZ mb xs i=rT eZ mb i (jd eZ mb xs (i-1)):=by obtain⟨q,rfl⟩:∃q,i=q+1:=⟨i-1,by omega⟩;rfl
  refine aC (ai (aj (aK (rr ae ?_))));refine aK (bA (α:=Nat×List (List Rat×Int)) (λx=>⟨[(0,.c (.X 0)),(1,cI 0),(2,cI xs.length),(3,lW 137),(8,cI i),(9,cI x.1)],[(0,.vec 80 UT x.2)],4,[]⟩) (λx=>rT eZ mb x.1 x.2=jd eZ mb xs i∧x.1≤i∧x.2.length=xs.length∧∀y∈x.2,xr w y) (λx=>x.1) (i,jd eZ mb xs (i-1)) ⟨hS.symm,bF _,Az xs _,λy hy=>hx y (aaZ af hy)⟩ ck ?_);rintro⟨j,ys⟩ ⟨fh,jy,nS,rU⟩;simp only at fh jy nS rU;refine aj (rb (rg 21 ae ae (λh1=>?_) (λh1=>?_)))
  ·have h1:0<j:=by have h1:(j:Int)>0:=bc h1;omega
   obtain⟨j,rfl⟩:∃q,j=q+1:=⟨j-1,by omega⟩;have e1:(((j+1:Nat):Int)).toNat=j+1:=bw _;have e2:(((j+1:Nat):Int)-1).toNat=j:=af;have g1:ys.getD (j+1) eZ∈ys:=by rw[EY af];exact mO _
   have g2:ys.getD j eZ∈ys:=by rw[EY af];exact mO _
   have hc:aG Tryz.prog 137 ([]++([.a (av UT (ys.getD (((j+1:Nat):Int)).toNat eZ)),.a (av UT (ys.getD (((j+1:Nat):Int)-1).toNat eZ))]++[])) (cI (mb (ys.getD (j+1) eZ) (ys.getD j eZ))):=by rw[e1,e2];exact aqB hw _ _ (rU _ g1) (rU _ g2)
   rw[rT]at fh;refine Sp ae ae ae ae ae (.inl ⟨ae,ae,ae⟩) ae hc (re ae (ax ae (λh2=>?_) (λh2=>?_))) (hp:=aR)
   ·have h2:mb (ys.getD (j+1) eZ) (ys.getD j eZ)<0:=bc h2;rw[aw h2]at fh;refine aC (ai (aj (aK (cG (lO (ys.getD j eZ) ae ae ae ae ?_ ?_ (lO (ys.getD (j+1) eZ) ae ae ae ae ?_ ?_ (re ae ?_) (hp:=?_)) (hp:=?_))))))
    ·show jn (.a (List.take 2 (List.drop 0 (av UT (ys.getD (((j+1:Nat):Int)-1).toNat eZ)))))=_;rw[e2];exact ae1 _
    ·show(((j+1:Nat):Int)).toNat<ys.length;omega
    ·show jn (.a (List.take 2 (List.drop 0 (av UT (ys.getD (((j+1:Nat):Int)).toNat eZ)))))=_;rw[e1];exact ae1 _
    ·show(((j+1:Nat):Int)-1).toNat<(ys.set _ _).length;rw[gK];omega
    ·refine a7 (ai (rt ae (hp:=aR) (a8 (j,vw eZ ys j) ⟨fh,by show j≤i;omega,by rw[Is];exact nS,λy hy=>rU y ((S9 af).mem_iff.1 hy)⟩ pP (wk ⟨sR ae,sR ae,sR ae,sR ae,sR ae,⟨_,ae,?_⟩,ah⟩ ⟨bE ae ?_,ah⟩))))
     ·exact au.of_eq (az (λz=>AV.c (C.I .i64 z)) (show((j+1:Nat):Int)-1=(j:Int)by omega))
     ·show aJ.vec 80 UT ((ys.set (((j+1:Nat):Int)).toNat _).set (((j+1:Nat):Int)-1).toNat _)=_;rw[e1,e2];rfl
    ·show 0≤((j+1:Nat):Int)-1∧((j+1:Nat):Int)-1<((ys.set _ _).length:Int);rw[gK];omega
    ·simp only[Pr.an,Pr.h,num,aA,true_and,and_true];omega
   ·have h2:¬mb (ys.getD (j+1) eZ) (ys.getD j eZ)<0:=bC h2;rw[aq h2]at fh;subst fh;exact bp (bu (br (bq (a7 (ai (rt ae (hp:=aR) (a8 (i+1) ⟨by omega,by omega⟩ FU (wk ⟨sR ae,sR ae,sR ae,sR ae,sE ae ae,ah⟩ ⟨bR ae,ah⟩))))))))
  ·have h1:j=0:=by have h1:¬(j:Int)>0:=bC h1;omega
   subst h1;have fh:ys=jd eZ mb xs i:=fh;subst fh;exact re ae (ax ae (λh2=>by cases h2) (λ_=>bp (bu (br (bq (a7 (ai (rt ae (hp:=aR) (a8 (i+1) ⟨by omega,by omega⟩ FU (wk ⟨sR ae,sR ae,sR ae,sR ae,sE ae ae,ah⟩ ⟨bR ae,ah⟩))))))))))
 ·have h:i-1=xs.length-1:=by have h:¬(i:Int)<(xs.length:Int):=bC h;omega
  rw[h];exact bp (bu (br (bq (zW ar ae (au.refl _) ae))))
set_option maxRecDepth 100000 in
set_option maxHeartbeats 4000000 in
def aqD{w:Nat}(hw:w≤100000)(xs:List (List Rat×Int))(hl:xs.length≤12)(hx:∀x∈xs,xr w x)(t:Int):mZ Tryz.prog 206 [.c (.X 0),cI 0,cI xs.length,cI t,lW 137] 80 UT xs (.t []) (jd eZ mb xs (xs.length-1)):=by
 refine qt Tryz.func206 ae ae ae ae ae ak ?_;refine rr ae (rr ae ?_);refine aK (bA (α:=Unit) (λ_=>⟨[(0,.c (.X 0)),(1,cI 0),(2,cI xs.length),(3,cI t),(4,lW 137)],[(0,.vec 80 UT xs)],3,[]⟩) (λ_=>True) (λ_=>0) () ah ck ?_);rintro- -;refine aK (rr ae (aj (rr ae (ax ae (λh=>?_) (λh=>?_)))))
 ·exact rb (nX 0 ae (aqC hw xs hl hx) ae ae (re ae (aF (bW (fC (ix (fC (tT ar ae (au.refl _) ae))))))))
 ·have h:¬((xs.length:Int)-0≤12):=bC h;omega
def aqE{w:Nat}(hw:w≤100000)(xs:List (List Rat×Int))(hl:xs.length≤12)(hx:∀x∈xs,xr w x):mZ Tryz.prog 136 [.c (.X 0),lW 137] 80 UT xs (.t []) (jd eZ mb xs (xs.length-1)):=by
 refine qt Tryz.func136 ae ae ae ae ae ak ?_;refine rr ae ?_;have hlen:aG Tryz.prog 130 [AV.c (num .u64 (xs.length:Int)).1] (cI (qy xs.length)):=by rw[show(AV.c (num .u64 (xs.length:Int)).1)=cU (xs.length:Int)from az (λx=>AV.c (C.I .u64 x)) (wrap_u64 _ af af)];exact Lf _ hl
 refine cG (rc ae ae hlen (nX 0 ae (aqD hw xs hl hx _) ae ae (re ae (zW ar ae (au.refl _) ae))))
end Go.El
namespace Go.El
open Go Go.Proofs Rx
def CD(c M:Nat)(A:Rx):Prop:=0<c∧∀i,∃z:Int,z.natAbs≤M∧((c:Nat):Rat)*A i=(z:Rat)
def CD.int{c M:Nat}{A:Rx}(h:CD c M A):eD (K ((c:Nat):Rat)*A):=eD.of λi=>by obtain⟨z,_,h2⟩:=h.2 i;exact⟨z,by rw[iA,h2]⟩
def CD.le{c M N:Nat}{A:Rx}(h:CD c M A)(k:M≤N):CD c N A:=⟨h.1,λi=>by obtain⟨z,h1,h2⟩:=h.2 i;exact⟨z,dG h1 k,h2⟩⟩
def CD.low{c d M:Nat}{A:Rx}(h:CD c M A)(hd:d∣c)(hi:eD (K ((d:Nat):Rat)*A)):CD d M A:=by
 obtain⟨j,rfl⟩:=hd;have hp:=h.1;have d0:0<d:=pT λe=>by subst e;omega
 have j0:0<j:=pT λe=>by subst e;omega
 refine⟨d0,λi=>?_⟩;obtain⟨z,h1,h2⟩:=h.2 i;have h3:=hi.at i;rw[iA]at h3;refine⟨_,?_,h3⟩;generalize nu (K ((d:Nat):Rat)*A) i=y at*;have h4:((j:Int):Rat)*(y:Rat)=(z:Rat):=by rw[←h2,←h3,xE,tu];grind
 rw[←iW]at h4;have h5:(j:Int)*y=z:=Dh.1 h4;rw[←h5,sj]at h1;have:1*y.natAbs≤j*y.natAbs:=dY _ j0;have e:((j:Int)).natAbs=j:=rfl;rw[e]at h1;omega
def aqF{A:PS}{M:Nat}(h:∀i,(A i).natAbs≤M):∀n,Rx.vH n A≤(((n+1)*M:Nat):Int):=by
 intro n;have key:∀k,sm (λi=>((A i).natAbs:Int)) k≤((k*M:Nat):Int):=by
  intro k;induction k with
  |zero=>simp[sm]
  |succ k ih=>
   rw[sm]
   have:=h k
   rw[fP,iZ]
   omega
 exact key (n+1)
def CD.div{c M:Nat}{A D:Rx}(hA:Mo A)(hD:Mo D)(hd:D∣A)(h:CD c M A):∃d,Dn D d∧d∣c∧CD d (2^(sz A-1)*(sz A*M)) D:=by
 obtain⟨E,rfl⟩:=hd;have hE:Mo E:=hA.Cr hD;obtain⟨d,dD⟩:=IH D;obtain⟨e,dE⟩:=IH E;obtain⟨n,dA⟩:=IH (E*D);have hn:=abL hE hD dE dD dA;have hnc:=dA.dvd c h.int;have qL:d∣c:=O1 ⟨e,by rw[hn,g9]⟩ hnc;have NK:=h.low hnc dA.int;have hs:=eK hE.ne hD.ne;have s1:=eN hE.ne;have s2:=eN hD.ne;refine⟨d,dD,qL,dD.pos,λi=>⟨nu (K ((d:Nat):Rat)*D) i,?_,by rw[←iA];exact dD.int.at i⟩⟩;have kz:∀{m:Nat}{B:Rx},0<m→sz (K ((m:Nat):Rat)*B)≤sz B:=λ_=>vD λi hi=>by rw[iA,oa hi,jG]
 have b1:nu (K ((e:Nat):Rat)*E) (sz E-1)≠0:=λe0=>by have h1:=dE.int.at (sz E-1);rw[iA,e0]at h1;have h2:E (sz E-1)=1:=hE;rw[h2,Bb]at h1;exact AB (V4.1 dE.pos) h1
 have hb:=abO (A:=nu (K ((d:Nat):Rat)*D)) (B:=nu (K ((e:Nat):Rat)*E)) (k:=sz D-1) (l:=sz E-1) (λj hj=>Tt (by have:=kz (B:=D) dD.pos;omega)) (λj hj=>Tt (by have:=kz (B:=E) dE.pos;omega)) b1 i;have e1:nu (K ((d:Nat):Rat)*D)*nu (K ((e:Nat):Rat)*E)=nu (K ((n:Nat):Rat)*(E*D)):=by rw[←MS dD.int dE.int];congr 1;rw[hn,xE,gA];ac_rfl
 rw[e1]at hb;have hM:∀i,(nu (K ((n:Nat):Rat)*(E*D)) i).natAbs≤M:=λi=>by obtain⟨z,h1,h2⟩:=NK.2 i;have h3:=dA.int.at i;rw[iA,h2]at h3;rw[←Dh.1 h3];exact h1
 have hnr:=aqF hM (sz D-1+(sz E-1));rw[show sz D-1+(sz E-1)=sz (E*D)-1 by omega]at hb hnr;have h2p:(0:Int)≤2^(sz (E*D)-1):=A8 (sn ak);have h6:=uN hb (ju hnr h2p);rw[show sz (E*D)-1+1=sz (E*D)by omega]at h6;have h7:(2:Int)^(sz (E*D)-1)*((sz (E*D)*M:Nat):Int)=((2^(sz (E*D)-1)*(sz (E*D)*M):Nat):Int):=by rw[gq (2^(sz (E*D)-1)),uK];rfl
 rw[h7]at h6;exact O8.1 h6
def CD.ht{c M N:Nat}{A:Rx}(h:CD c M A)(hc:c≤N)(hM:M≤N):Ht N A:=⟨(c:Int),by have:=h.1;omega,hc,λi=>by obtain⟨z,h1,h2⟩:=h.2 i;exact⟨z,dG h1 hM,h2⟩⟩
def ae4{a:List Rat}{d M:Nat}(h:CD d M (lx a)):dX a∣d:=aeI a (λj=>by
 obtain⟨z,_,h2⟩:=h.2 j;rw[l5]at h2;have h3:=IG (a.getD j 0);generalize a.getD j 0=r at*;have h4:((d:Int)*r.num:Int)=z*(r.den:Int):=by refine Dh.1 ?_;rw[iW,iW,←h3,←h2,tu,tu];grind
 have h5:(r.den:Int)∣r.num*(d:Int):=⟨z,by rw[fc,h4,fc]⟩;have h6:r.den∣r.num.natAbs*d:=by have:=F3.2 h5;rwa[sj]at this
 exact(r.reduced.symm.dvd_of_dvd_mul_left h6)) _
def aqH(a:List Rat):eD (K ((dX a:Nat):Rat)*lx a):=eD.of λi=>by
 by_cases hi:i<a.length
 ·refine⟨(a.getD i 0).num*((dX a:Nat):Int)/((a.getD i 0).den:Int),?_⟩;have kg:(a.getD i 0).den∣dX a:=N6 a _ i hi;rw[U4 _ (C8.2 kg),iA,l5];rfl
 ·exact⟨0,by rw[iA,l5,nK a af,jG];rfl⟩
def aqI{a:List Rat}{d M e t:Nat}(h:CD d M (lx a))(iK:a.getD (a.length-1) 0=1)(hd:d≤2^e)(hM:M≤2^t)(hb:(a.length-2)*e+t≤191)(i:Nat):aU 6 ((pN a).getD i 0):=by
 have e6:(4294967296:Nat)^6=2^192:=ak;unfold aU;rw[e6];by_cases hi:i<a.length
 ·by_cases hn:i=a.length-1
  ·subst hn;rw[N8 a hi,iK,iG,wm];exact Nat.one_lt_two_pow ak
  ·have hl:=h.low (ae4 h) (aqH a);obtain⟨z,h1,h2⟩:=hl.2 i;rw[l5]at h2;have hc:dX a≤2^e:=dG (rf h.1 (ae4 h)) hd;obtain⟨j,hj⟩:∃j,a.length-1-i=j+1:=⟨a.length-1-i-1,by omega⟩;have hz:(a.getD i 0).num*((dX a:Nat):Int)^(j+1)/((a.getD i 0).den:Int)=((dX a:Nat):Int)^j*z:=by
    refine Dh.1 ?_;have kg:((a.getD i 0).den:Int)∣((dX a:Nat):Int)^(j+1):=by rw[fO];exact J3 (C8.2 (N6 a _ i hi)) (OS _ _)
    rw[U4 _ kg,iW,←h2,fO,iW,tu];grind
   rw[N8 a hi,hj,hz,sj,Int.natAbs_pow,oV];have h3:dX a^j≤2^(e*j):=by rw[zk];exact F6 hc j
   have h4:e*j≤(a.length-2)*e:=by rw[g9];exact dY _ af
   have h5:dX a^j*z.natAbs≤2^(e*j)*2^t:=nk h3 (dG h1 hM);rw[←oY]at h5;exact zb h5 (Nat.pow_lt_pow_right ak af)
 ·rw[dz _ (by rw[CU];omega)];exact mh ak
noncomputable def fK:List (List Rat×Int)→Rx
 |[]=>1
 |x::l=>pk (lx x.1) x.2.toNat*fK l
noncomputable def qX:List (Rx×Int)→Rx
 |[]=>1
 |x::l=>pk x.1 x.2.toNat*qX l
def ae5:∀l m,fK (l++m)=fK l*fK m
 |[],m=>by rw[wh,fK,one_mul]
 |x::l,m=>by rw[mQ,fK,fK,ae5 l m,mul_assoc]
def ae6:∀l m,qX (l++m)=qX l*qX m
 |[],m=>by rw[wh,qX,one_mul]
 |x::l,m=>by rw[mQ,qX,qX,ae6 l m,mul_assoc]
def ae7:∀l:List (List Rat×Int),fK l=qX (l.map λp=>(lx p.1,p.2))
 |[]=>rfl
 |x::l=>by rw[jF,fK,qX,ae7 l]
def aqJ{l m:List (List Rat×Int)}(h:l.Perm m):fK l=fK m:=by
 induction h with
 |nil=>rfl
 |cons x _ ih=>rw[fK,fK,ih]
 |swap x y l=>rw[fK,fK,fK,fK];ac_rfl
 |trans _ _ i1 i2=>exact i1.trans i2
structure sa(a:List Rat)(fs:List (List Rat×Int)):Prop where
 ok:∀x∈fs,x.1.getD (x.1.length-1) 0=1∧cp (lx x.1)∧1≤x.2
 prod:fK fs=lx (dI a)
 yG:fs.Pairwise (λx y=>x.1≠y.1)
 adj:S' eZ mb fs (fs.length-1)
def ae8(c:Nat→Nat)(j:Nat):∀L,pk (pF c L) j=pF (λm=>c m*j) L
 |[]=>yu j
 |x::L=>by rw[pF,pF,wY,ae8 c j L,B4]
def Vc{L:List (Rx×Nat)}(h:FL L)(c:Nat→Nat):Mo (pF c L):=vE h.mo
def ae9{L:List (Rx×Nat)}(h:FL L):∀(k n:Nat),qX (oR L k n)=pF (λm=>if n≤m∧m<n+k then m else 0) L
 |0,n=>by rw[oR,qX];exact(To λx _=>aq af).symm
 |k+1,n=>by
  have e1:qX (if 1<sz (pF (kP n) L)then[(pF (kP n) L,(n:Int))]else[])=pk (pF (kP n) L) n:=by
   split
   ·rw[qX,qX,mul_one,bw]
   ·rename_i h1;have hm:=Vc h (kP n);have:=eN hm.ne;rw[hm.unit af,yu,qX]
  rw[oR,ae6,e1,ae9 h k (n+1),ae8,←E8];refine Cs λx _=>?_
  unfold kP;by_cases e:x.2=n
  ·rw[aw e,aq af,aw af];omega
  ·rw[aq e];by_cases e2:n+1≤x.2∧x.2<n+1+k
   ·rw[aw e2,aw af];omega
   ·rw[aq e2,aq af];omega
def Vd{L:List (Rx×Nat)}:∀{k n:Nat}{y:Rx×Int},y∈oR L k n→∃m:Nat,n≤m∧y=(pF (kP m) L,(m:Int))∧1<sz (pF (kP m) L)
 |0,_,_,h=>by cases h
 |k+1,n,y,h=>by
  rw[oR]at h;rcases bX.1 h with h|h
  ·split at h
   ·rename_i h1;exact⟨n,bF _,jw.1 h,h1⟩
   ·cases h
  ·obtain⟨m,h1,h2,h3⟩:=Vd h;exact⟨m,by omega,h2,h3⟩
def ae'{L:List (Rx×Nat)}:∀(k n:Nat),(oR L k n).Pairwise (λx y=>x.2≠y.2)
 |0,_=>List.Pairwise.nil
 |k+1,n=>by
  rw[oR];refine AZ.2 ⟨?_,ae' k (n+1),λx hx y hy=>?_⟩
  ·split
   ·exact OH _ _
   ·exact List.Pairwise.nil
  ·obtain⟨m,h1,h2,_⟩:=Vd hy;split at hx
   ·rw[jw.1 hx,h2];show(n:Int)≠(m:Int);omega
   ·cases hx
def aqL{L:List (Rx×Nat)}(h:FL L)(m:Nat):Co (pF (kP m) L) (bG (pF (kP m) L)):=by
 refine Ap (Vc h _).ne λQ hQ d1 d2=>?_
 obtain⟨x,hx,h1,h2⟩:=AA hQ d1;have h3:kP m x.2=1:=by have:=Fa m x.2;omega
 exact h.E6 (Fa m) hx h3 (dvd_trans (hQ.assoc (h.gZ x hx) h2) d2)
def aqM{A:Rx}(h:Co A (bG A)){Q:Rx}(hQ:2≤sz Q):¬Q*Q∣A:=λ⟨w,e⟩=>by
 have h1:Q∣A:=⟨w*Q,by rw[e];ac_rfl⟩;have h2:Q∣bG A:=by rw[e,vr,vr];refine dvd_add ⟨bG w*Q,by ac_rfl⟩ ?_;rw[mul_add];exact dvd_add ⟨w*bG Q,by ac_rfl⟩ ⟨w*bG Q,by ac_rfl⟩
 obtain⟨U,V,e1⟩:=h;have h3:Q∣1:=by rw[←e1];exact dvd_add (fg h1 _) (fg h2 _)
 have:=dvd_one h3;omega
def Oa{u:List Rat}:∀{l:List (List Rat)},u∈l→lx u∣yT l
 |v::l,h=>by
  rw[yT];rcases dx.1 h with rfl|h
  ·exact dvd_mul_right _ _
  ·exact fg (Oa h) _
def afa:∀{l:List (List Rat)},(∀u∈l,cp (lx u))→(∀Q:Rx,2≤sz Q→¬Q*Q∣yT l)→l.Pairwise (·≠·)
 |[],_,_=>List.Pairwise.nil
 |v::l,h,hs=>by refine jZ.2 ⟨λu hu e=>?_,afa (λu hu=>h u (by simp[hu])) λQ hQ hd=>hs Q hQ (fg hd _)⟩;subst e;exact hs (lx v) (h v be).1 (Aq (dvd_refl _) (Oa hu))
def afb(m:Int):∀l:List (List Rat),fK (l.map λu=>(u,m))=pk (yT l) m.toNat
 |[]=>(yu _).symm
 |u::l=>by rw[jF,fK,yT,wY,afb m l]
noncomputable def fL(out:List (List Rat×Int)):List (List Rat×Int):=out.flatMap λp=>(vV p.1).map λu=>(u,p.2)
def afc:∀{out:List (List Rat×Int)},(∀p∈out,pO p.1)→fK (fL out)=fK out
 |[],_=>rfl
 |p::out,h=>by rw[fL,gJ,ae5,afb,(Js (h p be)).2,fK];exact az _ (afc λq hq=>h q (by simp[hq]))
def afd:∀{l:List (List Rat×Int)},(∀x∈l,cp (lx x.1)∧1≤x.2)→fK l≠0∧l.length+1≤sz (fK l)
 |[],_=>⟨n6,by rw[fK,oK];exact bF _⟩
 |x::l,h=>by
  obtain⟨i1,i2⟩:=afd (l:=l) λy hy=>h y oT
  obtain⟨h1,h2⟩:=h x be;have h3:=UP h1.1 x.2.toNat;have h4:pk (lx x.1) x.2.toNat≠0:=λe=>by rw[e,kQ]at h3;omega
  have:=eK h4 i1;rw[fK];exact⟨oJ h4 i1,by rw[fk];omega⟩
def Ve{x:List Rat×Int}:∀{l:List (List Rat×Int)},x∈l→1≤x.2→lx x.1∣fK l
 |y::l,h,h1=>by
  rw[fK];rcases dx.1 h with rfl|h
  ·obtain⟨n,hn⟩:∃n,x.2.toNat=n+1:=⟨x.2.toNat-1,by omega⟩;rw[hn];exact qH (dvd_mul_left _ _) _
  ·exact fg (Ve h h1) _
def afe(a b:Rat):iz a b= -iz b a:=by
 unfold iz;by_cases h1:a<b
 ·rw[aw h1,aq (Rat.not_lt.2 (Rat.le_of_lt h1)),aw h1]
 ·rw[aq h1];by_cases h2:b<a
  ·rw[aw h2,aw h2];rfl
  ·rw[aq h2,aq h2,aq h1];rfl
def aff(a b:List Rat):∀i,xq a b i= -xq b a i
 |0=>rfl
 |i+1=>by
  rw[xq,xq,afe (b.getD i 0) (a.getD i 0),aff a b i];generalize iz (a.getD i 0) (b.getD i 0)=z;by_cases h:z=0
  ·rw[aq (λe=>e h),aq (λe=>e af)]
  ·rw[aw h,aw af];omega
def aqN(a b:List Rat):yU a b= -yU b a:=by
 unfold yU;by_cases h:a.length=b.length
 ·rw[aq (λe=>e h),aq (λe=>e h.symm),aff,h]
 ·rw[aw h,aw (λe=>h e.symm),Tc]
def aqO(x y:List Rat×Int):mb x y= -mb y x:=aqN _ _
structure lA(a:List Rat):Prop where
 can:dp a
 ne:a≠[]
 l9:a.length≤9
 hA:Ht (2^1500) (lx a)
 sz:∃c e h:Nat,CD c (2^h) (lx (dI a))∧c≤2^e∧e≤600∧(a.length-2)*e+(h+12)≤191
section
variable{a:List Rat}
def lA.mo(h:lA a):Mo (lx (dI a)):=NY h.can h.ne
def lA.Ju(h:lA a):Rx.sz (lx (dI a))=a.length:=by rw[dV (vU a),NZ h.can]
def lA.div(h:lA a){D:Rx}(hD:Mo D)(hd:D∣lx (dI a)):∃d e t,CD d (2^t) D∧d≤2^e∧e≤600∧(a.length-2)*e+t≤191:=by obtain⟨c,e,k,h1,h2,h3,h4⟩:=h.sz;obtain⟨d,_,d2,d3⟩:=h1.div h.mo hD hd;refine⟨d,e,k+12,d3.le ?_,dG (rf h1.1 d2) h2,h3,h4⟩;rw[h.Ju];have l9:=h.l9;have e1:2^(a.length-1)≤2^8:=jP ak af;have e2:a.length*2^k≤9*2^k:=dY _ l9;have e3:=nk e1 e2;rw[oY];omega
def lA.ht(h:lA a){D:Rx}(hD:Mo D)(hd:D∣lx (dI a)):Ht (2^600) D:=by obtain⟨d,e,t,h1,h2,h3,h4⟩:=h.div hD hd;exact h1.ht (dG h2 (N1 600 h3)) (N1 600 af)
def lA.qs(h:lA a){D:Rx}(hD:Mo D)(hd:D∣lx (dI a))(i:Nat):QS 20 (D i):=(h.ht hD hd).qs (tq (t:=600) af) i
def Vf{q:List Rat}(hq:dp q)(hm:Mo (lx q)):q.getD (q.length-1) 0=1:=by have:=hm;rw[Mo,dV hq]at this;exact this
def AP{q:List Rat}(h:q.getD (q.length-1) 0=1):dp q∧Mo (lx q):=by have hq:dp q:= .inr (by rw[h];decide);exact⟨hq,by rw[Mo,dV hq];exact h⟩
def lA.irH(h:lA a){q:List Rat}(hq:dp q)(hm:Mo (lx q))(hd:lx q∣lx (dI a))(h2:2≤q.length)(hc:Co (lx q) (bG (lx q))):pO q∧∀i,QS 20 (q.getD i 0):=by
 have hl:q.length≤a.length:=by have:=kD hd h.mo.ne;rwa[dV hq,h.Ju]at this
 have l9:=h.l9;obtain⟨d,e,t,h1,h3,h4,h5⟩:=h.div hm hd;have h6:(q.length-2)*e≤(a.length-2)*e:=dY _ af;exact⟨⟨Vf hq hm,h2,by omega,hc,λi=>aqI h1 (Vf hq hm) h3 (bF _) af i⟩,λi=>h.qs hm hd i⟩
def aqQ{L:List (Rx×Nat)}{m:Nat}(hm:1≤m):pF (kP m) L∣pF id L:=by
 have e:pF id L=pF (λk=>(k-kP m k)+kP m k) L:=Cs λx _=>by show x.2=_;unfold kP;split<;>omega
 rw[e,E8];exact dvd_mul_left _ _
def lA.out(h:lA a){L:List (Rx×Nat)}(hL:FL L)(hF:pF id L=lx (dI a)){out:List (List Rat×Int)}(ho:out.map (λp=>(lx p.1,p.2))=oR L a.length 1)(hq:∀p∈out,dp p.1):
  (∀p∈out,pO p.1∧(∀i,QS 20 (p.1.getD i 0))∧1≤p.2)∧(fL out).length≤8∧(∀x∈fL out,xr 20 x)∧sa a (jd eZ mb (fL out) ((fL out).length-1)):=by
 have Vg:∀p∈out,∃m:Nat,1≤m∧lx p.1=pF (kP m) L∧p.2=(m:Int)∧2≤p.1.length:=λp hp=>by
  have h1:(lx p.1,p.2)∈oR L a.length 1:=by rw[←ho];exact List.mem_map_of_mem (f:=λp:List Rat×Int=>(lx p.1,p.2)) hp
  obtain⟨m,m1,m2,m3⟩:=Vd h1;obtain⟨e1,e2⟩:=Prod.mk.inj m2;refine⟨m,m1,e1,e2,?_⟩;rw[←e1,dV (hq p hp)]at m3;exact m3
 have dM:∀p∈out,pO p.1∧(∀i,QS 20 (p.1.getD i 0))∧1≤p.2:=λp hp=>by
  obtain⟨m,m1,m2,m3,m4⟩:=Vg p hp;have hm:Mo (lx p.1):=by rw[m2];exact Vc hL _
  obtain⟨i1,i2⟩:=h.irH (hq p hp) hm (by rw[m2,←hF];exact aqQ m1) m4 (by rw[m2];exact aqL hL m);exact⟨i1,i2,by omega⟩
 have hxo:∀x∈fL out,∃p∈out,x.1∈vV p.1∧x.2=p.2:=λx hx=>by obtain⟨p,hp,hx⟩:=jE.1 hx;obtain⟨u,hu,rfl⟩:=nQ.1 hx;exact⟨p,hp,hu,ae⟩
 have rA:∀x∈fL out,x.1.getD (x.1.length-1) 0=1∧cp (lx x.1)∧1≤x.2:=λx hx=>by obtain⟨p,hp,h1,h2⟩:=hxo x hx;obtain⟨i1,_,i2,i3⟩:=(Js (dM p hp).1).1 _ h1;exact⟨i1,i3,by rw[h2];exact(dM p hp).2.2⟩
 have yD:fK (fL out)=lx (dI a):=by
  rw[afc λp hp=>(dM p hp).1,ae7,ho,ae9 hL,←hF];refine Cs λx hx=>?_
  have h1:=hL.pos x hx;have h2:=aex hL hx;rw[hF,h.Ju]at h2;exact aw af
 have hlen:(fL out).length≤8:=by have:=(afd λx hx=>(rA x hx).2).2;rw[yD,h.Ju]at this;have:=h.l9;omega
 have aqS:(fL out).Pairwise (λx y=>x.1≠y.1):=by
  have z':out.Pairwise (λx y=>x.2≠y.2):=by have:=ae' (L:=L) a.length 1;rw[←ho]at this;exact(JX (R:=λx y:Rx×Int=>x.2≠y.2)).1 this
  have go:∀{o:List (List Rat×Int)},(∀p∈o,p∈out)→o.Pairwise (λx y=>x.2≠y.2)→(fL o).Pairwise (λx y=>x.1≠y.1):=by
   intro o;induction o with
   |nil=>intro _ _;exact List.Pairwise.nil
   |cons p o ih=>
    intro ho hp
    obtain⟨p1,p2⟩:=jZ.1 hp
    have Ob:=ho p be
    refine AZ.2 ⟨?_,ih (λq hq=>ho q (by simp[hq])) p2,λx hx y hy e=>?_⟩
    ·obtain⟨i1,i2⟩:=Js (dM p Ob).1;refine JX.2 (afa (λu hu=>(i1 u hu).2.2.2) λQ hQ hd=>?_);rw[i2]at hd;exact aqM (dM p Ob).1.co hQ hd
    ·obtain⟨u,hu,rfl⟩:=nQ.1 hx;obtain⟨q,Au,Hh⟩:=jE.1 hy;obtain⟨v,hv,rfl⟩:=nQ.1 Hh;have e:u=v:=e;subst e;have hqo:=ho q (by simp[Au]);obtain⟨m,m1,m2,m3,_⟩:=Vg p Ob;obtain⟨n,n1,n2,n3,_⟩:=Vg q hqo;obtain⟨i1,i2⟩:=Js (dM p Ob).1;obtain⟨j1,j2⟩:=Js (dM q hqo).1;obtain⟨_,_,um,ui⟩:=i1 u hu;have d1:lx u∣pF (kP m) L:=by rw[←m2,←i2];exact Oa hu
     have d2:lx u∣pF (kP n) L:=by rw[←n2,←j2];exact Oa hv
     obtain⟨x,x1,x2,x3⟩:=AA ui d1;obtain⟨y,y1,y2,y3⟩:=AA ui d2;have ex:=ui.eq (hL.gZ x x1) um (hL.mo x x1) x3;have ey:=ui.eq (hL.gZ y y1) um (hL.mo y y1) y3;have kx:x.2=m:=MK.1 (by have:=Fa m x.2;omega);have ky:y.2=n:=MK.1 (by have:=Fa n y.2;omega);by_cases exy:x=y
     ·refine p1 q Au ?_;rw[m3,n3,←kx,←ky,exy]
     ·exact FL.Tn hL.yG x1 y1 exy (by rw[←ex,←ey])
  exact go (λp hp=>hp) z'
 have Jv:(jd eZ mb (fL out) ((fL out).length-1)).Perm (fL out):=by
  cases e:fL out with
  |nil=>exact zf _
  |cons x l=>exact It _ _ JK
 refine⟨dM,hlen,λx hx=>?_,λx hx=>rA x (Jv.mem_iff.1 hx),by rw[aqJ Jv,yD],Jv.symm.pairwise aqS (λh e=>h e.symm),?_⟩
 ·obtain⟨h1,h2,h3⟩:=rA x hx;obtain⟨h4,h5⟩:=AP h1;have hd:lx x.1∣lx (dI a):=by rw[←yD];exact Ve hx h3
  have hl:=kD hd h.mo.ne;rw[dV h4,h.Ju]at hl;have:=h.l9;exact⟨by omega,λi=>h.qs h5 hd i⟩
 ·rw[Az];cases e:fL out with
  |nil=>exact λt ht=>absurd ht (A3 _)
  |cons x l=>exact Ta aqO _ _ JK
end
end Go.El
namespace Go.El
open Go Go.Proofs
def aqT{out:List (List Rat×Int)}{i:Nat}(h:i<out.length):fL (out.take (i+1))=fL (out.take i)++(vV (out.getD i eZ).1).map λu=>(u,(out.getD i eZ).2):=by
 have CV:out.take (i+1)=out.take i++[out.getD i eZ]:=by rw[wc,aY,ct h];rfl
 rw[CV,fL,za];simp[fL]
def afi{L:List (Rx×Nat)}:∀k n,(oR L k n).length≤k
 |0,_=>bF _
 |k+1,n=>by
  have:=afi (L:=L) k (n+1);rw[oR,ko];split
  ·rw[List.length_singleton];omega
  ·rw[mc];omega
def afj{out:List (List Rat×Int)}(i:Nat):(fL (out.take i)).length≤(fL out).length:=by
 have e:fL out=fL (out.take i)++fL (out.drop i):=by
  conv=>lhs;rw[←AY i out]
  rw[fL,za];rfl
 rw[e,ko];omega
set_option maxRecDepth 100000 in
set_option maxHeartbeats 16000000 in
def Vh{a:List Rat}(h:lA a):∃fs,sa a fs∧fs.length≤8∧(∀x∈fs,xr 20 x)∧aG Tryz.prog 72 [cS .q a] (.t [(true,av .q (a.getD (a.length-1) 0)),(false,[.S UT fs]),(false,[.I .i64 0])]):=by
 obtain⟨L,hL,hF⟩:=Rx.abB _ (Rx.lx (dI a)) (fN _) h.mo;obtain⟨out,o1,o2,o3⟩:=ap' (t:=1500) af h.can h.ne h.l9 h.hA hL hF (λD hD hd=>(h.ht hD (hF▸hd)).le (Rx.N1 1500 (k:=600) ak));obtain⟨p1,p2,p3,p4⟩:=h.out hL hF o2 o3;have Jv:(jd eZ mb (fL out) ((fL out).length-1)).Perm (fL out):=by
  cases e:fL out with
  |nil=>exact zf _
  |cons x l=>exact It _ _ JK
 refine⟨_,p4,by rw[Az];exact p2,λx hx=>p3 x (Jv.mem_iff.1 hx),?_⟩;refine aX Tryz.func72 ae ae ae ae ae ak ?_;have la:=cX.2 h.ne;have l9:=h.l9;refine rr ae (aj (rr ae (ax ae (λh1=>?_) (λ_=>aC (ai ?_)))))
 ·exfalso;have h1:((a.length:Int)==0)=true:=h1;have:=eq_of_beq h1;omega
 refine aj (rr ae (ax ae (λh1=>?_) (λ_=>aC (ai ?_))))
 ·exfalso;have h1:(a.length:Int)-1>12:=bc h1;omega
 refine rr ae (aj (rb (wK ae ae o1 (re ae ?_))));have KP:out.length≤9:=by have h1:=afi (L:=L) a.length 1;rw[←o2,dJ]at h1;omega
 refine dv (oC 4001000 ae) ?_;refine aK (bA (α:=Nat) (λi=>⟨[(0,cS .q a),(2,.c (.P 0 0)),(4,cI 0),(5,.c (.X 20000000)),(20,cS UT out),(21,cI out.length),(22,cI i)],[(20000000,.vec 80 UT (fL (out.take i))),(0,.box 46 0 [.B false,.V (.slice none 0 0),.B false,.V (.slice none 0 0)])],30,[]⟩) (λi=>i≤out.length) (λi=>out.length-i) 0 (bK _) ?_ ?_)
 ·exact s9 20000000 80 UT ⟨.inl (sR ae),.inl (sR ae),.inl (sE ae ae),.inr ⟨ae,ae⟩,.inl (sE ae ae),.inl (sR ae),.inl (sE ae ae),ah⟩ ⟨bE ae ae,ah⟩ ae (eO.of ae)
 intro i hi;refine rr ae (aj (ax ae (λh1=>?_) (λh1=>?_)))
 ·have h1:i<out.length:=by have h1:(i:Int)<(out.length:Int):=bc h1;omega
  have tM:i+1≤out.length:=h1;have tR:(out.getD ((i:Int)).toNat (ET.kU UT))=out.getD i eZ:=az (λz=>out.getD z eZ) (bw i);obtain⟨g1,g2,g3⟩:=p1 (out.getD i eZ) JJ;have hft:=aqT h1;have nW:=afj (out:=out) (i+1);have dM:=aqv g1 g2;have hi8:(vV (out.getD i eZ).1).length≤8:=by rw[vV,dJ];exact(aeZ g1.mf).1
  refine aC (ai (aj (aK (rr ae ?_ (hp:=aR)))));rw[tR];generalize out.getD i eZ=pr at*;obtain⟨q,m⟩:=pr;simp only at g1 g2 g3 hft dM hi8;generalize vV q=us at*;refine rb (rc ae ae dM (re ae ?_));refine aK (bA (α:=Nat) (λj=>⟨[(0,cS .q a),(2,.c (.P 0 0)),(4,cI 0),(5,.c (.X 20000000)),(7,.c (.P 31002000 0)),(20,cS UT out),(21,cI out.length),(22,cI i),(28,cS (.sl .q) us),(29,cI us.length),(30,cI j)],[(20000000,.vec 80 UT (fL (out.take i)++(us.take j).map λu=>(u,m))),(31002000,.box 80 0 [.S .q q,.I .i64 m]),(0,.box 46 0 [.B false,.V (.slice none 0 0),.B false,.V (.slice none 0 0)])],40,[]⟩) (λj=>j≤us.length) (λj=>us.length-j) 0 (bK _) (wk ⟨sR ae,sR ae,sR ae,sR ae,sR ae,sR ae,sR ae,sR ae,sR ae,sR ae,sE ae ae,ah⟩ ⟨bE ae ?_,bE ae ae,bR ae,ah⟩) ?_)
  ·rw[OZ,Ge,kp]
  intro j hj;refine rr ae (aj (ax ae (λh2=>?_) (λh2=>?_)))
  ·have h2:j<us.length:=by have h2:(j:Int)<(us.length:Int):=bc h2;omega
   have aqV:(us.getD ((j:Int)).toNat (ET.kU (.sl .q)))=us.getD j []:=az (λz=>us.getD z []) (bw j);have CV:us.take (j+1)=us.take j++[us.getD j []]:=by rw[wc,aY,ct h2];rfl
   have sX:(fL (out.take i)++(us.take j).map λu=>(u,m)).length≤20:=by have:=afj (out:=out) i;rw[ko,dJ,fD];omega
   refine aC (ai (aj (aK (rr ae ?_ (hp:=aR)))));rw[aqV];refine cG (rl UT [(us.getD j [],m)] ae ae (ra ae ae ae ae ae ae ae ae ae ?_ ?_ (re ae (a7 (ai (rt ae (hp:=aR) (a8 (j+1) h2 (by show us.length-(j+1)<us.length-j;omega) (Wk.trans (wk (st':=⟨[(0,cS .q a),(2,.c (.P 0 0)),(4,cI 0),(5,.c (.X 42006000)),(7,.c (.P 31002000 0)),(20,cS UT out),(21,cI out.length),(22,cI i),(28,cS (.sl .q) us),(29,cI us.length),(30,cI (j+1:Nat))],[(42006000,.vec 80 UT (fL (out.take i)++(us.take (j+1)).map λu=>(u,m))),(31002000,.box 80 0 [.S .q q,.I .i64 m]),(0,.box 46 0 [.B false,.V (.slice none 0 0),.B false,.V (.slice none 0 0)])],44,[]⟩) ⟨sR ae,sR ae,sR ae,sR ae,sR ae,sR ae,sR ae,sR ae,sR ae,sR ae,sR ae,ah⟩ ⟨bE ae ?_,bR ae,bR ae,ah⟩) (Wk.trans (qq 20000000 42006000 ae ae ae) ck)))))))))
   ·show((fL (out.take i)++(us.take j).map λu=>(u,m)).length+1+((fL (out.take i)++(us.take j).map λu=>(u,m)).length+1)/4+192)*32≤_;omega
   ·show((fL (out.take i)++(us.take j).map λu=>(u,m)).length+1)*2≤_;omega
   ·rw[CV,dZ,←nj];rfl
  ·have h2:j=us.length:=by have h2:¬(j:Int)<(us.length:Int):=bC h2;omega
   subst h2;rw[iV,←hft];exact bp (bu (br (bq (a7 (ai (rt ae (hp:=aR) (a8 (i+1) tM (by show out.length-(i+1)<out.length-i;omega) ck)))))))
 ·have h1:i=out.length:=by have h1:¬(i:Int)<(out.length:Int):=bC h1;omega
  subst h1;rw[iV];refine bp (bu (br (bq (ai ?_))));refine rb (nX 20000000 ae (aqE (w:=20) ak _ af p3) ae ae (re ae ?_));refine dv (oC 20000000 ae) (rr ae (aF (aL ar ae (au.of_eq ?_))));have e:((a.length:Int)-1).toNat=a.length-1:=af;show AV.t [(true,av .q (a.getD ((a.length:Int)-1).toNat 0)),(false,[C.S UT (jd eZ mb (fL out) ((fL out).length-1))]),(false,[.I .i64 0])]=_;rw[e]
def afl(x:Rat):jn (.a (List.take 4 (List.drop 0 (av .q x))))=some (av .q x):=rfl
set_option maxRecDepth 100000 in
set_option maxHeartbeats 4000000 in
def aqW{w:Nat}(hw:w≤100000)(xs:List (Rat))(hl:xs.length≤12)(hx:∀x∈xs,QS w x):mZ Tryz.prog 213 [.c (.X 0),cI 0,cI xs.length,lW 79] 46 .q xs (.t []) (jd (0:Rat) iz xs (xs.length-1)):=by
 refine qt Tryz.func213 ae ae ae ae ae ak ?_;refine rr ae ?_;refine aK (bA (α:=Nat) (λi=>⟨[(0,.c (.X 0)),(1,cI 0),(2,cI xs.length),(3,lW 79),(8,cI i)],[(0,.vec 46 .q (jd (0:Rat) iz xs (i-1)))],2,[]⟩) (λi=>1≤i∧i-1≤xs.length-1) (λi=>xs.length-i) 1 ⟨bF _,bK _⟩ (wk ⟨sR ae,sR ae,sR ae,sR ae,sR ae,ah⟩ ⟨bE ae ae,ah⟩) ?_);rintro i ⟨tM,hi⟩;refine aj (rr ae (ax ae (λh=>?_) (λh=>?_)))
 ·have h:i<xs.length:=by have h:(i:Int)<(xs.length:Int):=bc h;omega
  have hS:jd (0:Rat) iz xs i=rT (0:Rat) iz i (jd (0:Rat) iz xs (i-1)):=by obtain⟨q,rfl⟩:∃q,i=q+1:=⟨i-1,by omega⟩;rfl
  refine aC (ai (aj (aK (rr ae ?_))));refine aK (bA (α:=Nat×List (Rat)) (λx=>⟨[(0,.c (.X 0)),(1,cI 0),(2,cI xs.length),(3,lW 79),(8,cI i),(9,cI x.1)],[(0,.vec 46 .q x.2)],4,[]⟩) (λx=>rT (0:Rat) iz x.1 x.2=jd (0:Rat) iz xs i∧x.1≤i∧x.2.length=xs.length∧∀y∈x.2,QS w y) (λx=>x.1) (i,jd (0:Rat) iz xs (i-1)) ⟨hS.symm,bF _,Az xs _,λy hy=>hx y (aaZ af hy)⟩ ck ?_);rintro⟨j,ys⟩ ⟨fh,jy,nS,rU⟩;simp only at fh jy nS rU;refine aj (rb (rg 21 ae ae (λh1=>?_) (λh1=>?_)))
  ·have h1:0<j:=by have h1:(j:Int)>0:=bc h1;omega
   obtain⟨j,rfl⟩:∃q,j=q+1:=⟨j-1,by omega⟩;have e1:(((j+1:Nat):Int)).toNat=j+1:=bw _;have e2:(((j+1:Nat):Int)-1).toNat=j:=af;have g1:ys.getD (j+1) 0∈ys:=by rw[EY af];exact mO _
   have g2:ys.getD j 0∈ys:=by rw[EY af];exact mO _
   have hc:aG Tryz.prog 79 ([]++([.a (av .q (ys.getD (((j+1:Nat):Int)).toNat 0)),.a (av .q (ys.getD (((j+1:Nat):Int)-1).toNat 0))]++[])) (cI (iz (ys.getD (j+1) 0) (ys.getD j 0))):=by rw[e1,e2];exact abk _ _ (rU _ g1) (rU _ g2) af
   rw[rT]at fh;refine Sp ae ae ae ae ae (.inl ⟨ae,ae,ae⟩) ae hc (re ae (ax ae (λh2=>?_) (λh2=>?_))) (hp:=aR)
   ·have h2:iz (ys.getD (j+1) 0) (ys.getD j 0)<0:=bc h2;rw[aw h2]at fh;refine aC (ai (aj (aK (cG (lO (ys.getD j 0) ae ae ae ae ?_ ?_ (lO (ys.getD (j+1) 0) ae ae ae ae ?_ ?_ (re ae ?_) (hp:=?_)) (hp:=?_))))))
    ·show jn (.a (List.take 4 (List.drop 0 (av .q (ys.getD (((j+1:Nat):Int)-1).toNat 0)))))=_;rw[e2];exact afl _
    ·show(((j+1:Nat):Int)).toNat<ys.length;omega
    ·show jn (.a (List.take 4 (List.drop 0 (av .q (ys.getD (((j+1:Nat):Int)).toNat 0)))))=_;rw[e1];exact afl _
    ·show(((j+1:Nat):Int)-1).toNat<(ys.set _ _).length;rw[gK];omega
    ·refine a7 (ai (rt ae (hp:=aR) (a8 (j,vw (0:Rat) ys j) ⟨fh,by show j≤i;omega,by rw[Is];exact nS,λy hy=>rU y ((S9 af).mem_iff.1 hy)⟩ pP (wk ⟨sR ae,sR ae,sR ae,sR ae,sR ae,⟨_,ae,?_⟩,ah⟩ ⟨bE ae ?_,ah⟩))))
     ·exact au.of_eq (az (λz=>AV.c (C.I .i64 z)) (show((j+1:Nat):Int)-1=(j:Int)by omega))
     ·show aJ.vec 46 .q ((ys.set (((j+1:Nat):Int)).toNat _).set (((j+1:Nat):Int)-1).toNat _)=_;rw[e1,e2];rfl
    ·show 0≤((j+1:Nat):Int)-1∧((j+1:Nat):Int)-1<((ys.set _ _).length:Int);rw[gK];omega
    ·simp only[Pr.an,Pr.h,num,aA,true_and,and_true];omega
   ·have h2:¬iz (ys.getD (j+1) 0) (ys.getD j 0)<0:=bC h2;rw[aq h2]at fh;subst fh;exact bp (bu (br (bq (a7 (ai (rt ae (hp:=aR) (a8 (i+1) ⟨by omega,by omega⟩ FU (wk ⟨sR ae,sR ae,sR ae,sR ae,sE ae ae,ah⟩ ⟨bR ae,ah⟩))))))))
  ·have h1:j=0:=by have h1:¬(j:Int)>0:=bC h1;omega
   subst h1;have fh:ys=jd (0:Rat) iz xs i:=fh;subst fh;exact re ae (ax ae (λh2=>by cases h2) (λ_=>bp (bu (br (bq (a7 (ai (rt ae (hp:=aR) (a8 (i+1) ⟨by omega,by omega⟩ FU (wk ⟨sR ae,sR ae,sR ae,sR ae,sE ae ae,ah⟩ ⟨bR ae,ah⟩))))))))))
 ·have h:i-1=xs.length-1:=by have h:¬(i:Int)<(xs.length:Int):=bC h;omega
  rw[h];exact bp (bu (br (bq (zW ar ae (au.refl _) ae))))
set_option maxRecDepth 100000 in
set_option maxHeartbeats 4000000 in
def aqX{w:Nat}(hw:w≤100000)(xs:List (Rat))(hl:xs.length≤12)(hx:∀x∈xs,QS w x)(t:Int):mZ Tryz.prog 147 [.c (.X 0),cI 0,cI xs.length,cI t,lW 79] 46 .q xs (.t []) (jd (0:Rat) iz xs (xs.length-1)):=by
 refine qt Tryz.func147 ae ae ae ae ae ak ?_;refine rr ae (rr ae ?_);refine aK (bA (α:=Unit) (λ_=>⟨[(0,.c (.X 0)),(1,cI 0),(2,cI xs.length),(3,cI t),(4,lW 79)],[(0,.vec 46 .q xs)],3,[]⟩) (λ_=>True) (λ_=>0) () ah ck ?_);rintro- -;refine aK (rr ae (aj (rr ae (ax ae (λh=>?_) (λh=>?_)))))
 ·exact rb (nX 0 ae (aqW hw xs hl hx) ae ae (re ae (aF (bW (fC (ix (fC (tT ar ae (au.refl _) ae))))))))
 ·have h:¬((xs.length:Int)-0≤12):=bC h;omega
def afm{w:Nat}(hw:w≤100000)(xs:List (Rat))(hl:xs.length≤12)(hx:∀x∈xs,QS w x):mZ Tryz.prog 78 [.c (.X 0),lW 79] 46 .q xs (.t []) (jd (0:Rat) iz xs (xs.length-1)):=by
 refine qt Tryz.func78 ae ae ae ae ae ak ?_;refine rr ae ?_;have hlen:aG Tryz.prog 130 [AV.c (num .u64 (xs.length:Int)).1] (cI (qy xs.length)):=by rw[show(AV.c (num .u64 (xs.length:Int)).1)=cU (xs.length:Int)from az (λx=>AV.c (C.I .u64 x)) (wrap_u64 _ af af)];exact Lf _ hl
 refine cG (rc ae ae hlen (nX 0 ae (aqX hw xs hl hx _) ae ae (re ae (zW ar ae (au.refl _) ae))))
def iE:List (List Rat×Int)→List Rat
 |[]=>[]
 |x::l=>(if x.1.length=2 then[-(x.1.getD 0 0)]else[])++iE l
def afn:∀l m,iE (l++m)=iE l++iE m
 |[],m=>rfl
 |x::l,m=>by rw[mQ,iE,iE,afn l m,nj]
def Oc:∀l,(iE l).length≤l.length
 |[]=>bF _
 |x::l=>by
  have:=Oc l;rw[iE,ko,fk];split
  ·rw[List.length_singleton];omega
  ·rw[mc];omega
def Jw{r:Rat}:∀{l:List (List Rat×Int)},r∈iE l→∃x∈l,x.1.length=2∧r= -(x.1.getD 0 0)
 |x::l,h=>by
  rw[iE]at h;rcases bX.1 h with h|h
  ·split at h
   ·rename_i h2;exact⟨x,by simp,h2,jw.1 h⟩
   ·cases h
  ·obtain⟨y,h1,h2⟩:=Jw h;exact⟨y,by simp[h1],h2⟩
set_option maxRecDepth 100000 in
set_option maxHeartbeats 16000000 in
def aqY{a:List Rat}(h:lA a):∃fs,sa a fs∧fs.length≤8∧(∀x∈fs,xr 20 x)∧aG Tryz.prog 24 [cS .q a] (cS .q (jd 0 iz (iE fs) ((iE fs).length-1))):=by
 obtain⟨fs,f1,f2,f3,f4⟩:=Vh h;refine⟨fs,f1,f2,f3,?_⟩;have kA:=Oc fs;have Jl:∀r∈iE fs,QS 20 r:=λr hr=>by obtain⟨x,h1,_,rfl⟩:=Jw hr;exact((f3 x h1).q 0).neg
 refine aX Tryz.func24 ae ae ae ae ae ak ?_;refine rr ae (rb (rc ae ae f4 (re ae (rr ae (aj (rr ae ?_))))));refine aK (bA (α:=Nat) (λi=>⟨[(6,.c (.X 20000000)),(15,cS UT fs),(16,cI fs.length),(17,cI i)],[(20000000,.vec 46 .q (iE (fs.take i)))],30,[]⟩) (λi=>i≤fs.length) (λi=>fs.length-i) 0 (bK _) ?_ ?_)
 ·exact s9 20000000 46 .q ⟨.inr ⟨ae,ae⟩,.inl (sR ae),.inl (sR ae),.inl (sE ae ae),ah⟩ ah ae (eO.of ae)
 intro i hi;refine rr ae (aj (ax ae (λh1=>?_) (λh1=>?_)))
 ·have h1:i<fs.length:=by have h1:(i:Int)<(fs.length:Int):=bc h1;omega
  have tR:(fs.getD ((i:Int)).toNat (ET.kU UT))=fs.getD i eZ:=az (λz=>fs.getD z eZ) (bw i);have KX:=f3 (fs.getD i eZ) JJ;have CV:fs.take (i+1)=fs.take i++[fs.getD i eZ]:=by rw[wc,aY,ct h1];rfl
  have xU:iE (fs.take (i+1))=iE (fs.take i)++(if(fs.getD i eZ).1.length=2 then[-((fs.getD i eZ).1.getD 0 0)]else[]):=by rw[CV,afn,iE,iE,kp]
  have aam:=Oc (fs.take i);rw[fD]at aam;refine aC (ai (aj (aK (rr ae ?_ (hp:=aR)))));rw[tR];generalize fs.getD i eZ=pr at*;obtain⟨q,m⟩:=pr;simp only at xU;refine rr ae (ax ae (λh2=>?_) (λh2=>?_))
  ·have h2:q.length=2:=by have h2:((q.length:Int)==2)=true:=h2;have:=eq_of_beq h2;omega
   rw[aw h2]at xU;have nA:=KX.q 0;have hng:=abf (q.getD 0 0) (nA.n.sm af);refine cG ?_;refine rc ae ae hng ?_ (hp:=aR);refine rl .q [-(q.getD 0 0)] ae ae (ra ae ae ae ae ae ae ae ae ae ?_ ?_ (re ae (a7 (ai (rt ae (hp:=aR) (a8 (i+1) h1 (by show fs.length-(i+1)<fs.length-i;omega) (Wk.trans (wk (st':=⟨[(6,.c (.X 33007000)),(15,cS UT fs),(16,cI fs.length),(17,cI (i+1:Nat))],[(33007000,.vec 46 .q (iE (fs.take (i+1))))],35,[]⟩) ⟨sR ae,sR ae,sR ae,sR ae,ah⟩ ⟨bE ae ?_,ah⟩) (Wk.trans (qq 20000000 33007000 ae ae ae) ck))))))))
   ·show((iE (fs.take i)).length+1+((iE (fs.take i)).length+1)/4+192)*64≤_;omega
   ·show((iE (fs.take i)).length+1)*4≤_;omega
   ·rw[xU]
  ·have h2:q.length≠2:=λe=>by have h2:((q.length:Int)==2)=false:=h2;rw[e]at h2;cases h2
   rw[aq h2,kp]at xU;refine aC (a7 (ai (rt ae (hp:=aR) (a8 (i+1) h1 (by show fs.length-(i+1)<fs.length-i;omega) (wk ⟨sR ae,sR ae,sR ae,sR ae,ah⟩ ⟨bE ae ?_,ah⟩)))));rw[xU]
 ·have h1:i=fs.length:=by have h1:¬(i:Int)<(fs.length:Int):=bC h1;omega
  subst h1;rw[iV];refine bp (bu (br (bq (ai ?_))));refine rb (nX 20000000 ae (afm (w:=20) ak _ af Jl) ae ae (re ae ?_));exact dv (oC 20000000 ae) (rr ae (aF (aL ar ae (au.refl _))))
def Od(n g:Int)(hg:g≠0)(hn:Sm n)(qw:Sm g):aG Tryz.prog 228 [aZ n,aZ g] (aZ (n/g)):=by refine aX Tryz.func228 ae ae ae ae ae ak ?_;refine rr ae (rb (rc ae ae (aiL n g hg hn qw) (re ae (rr ae (aF (aL ar ae (au.of_eq ?_)))))));rfl
def Sm.gcd{n d:Int}(hd:d≠0)(h:Sm d):Sm ((Int.gcd n d:Nat):Int):=by have h1:Int.gcd n d≤d.natAbs:=Nat.gcd_le_right _ af;have h2:(ay (((Int.gcd n d:Nat):Int)).natAbs).length≤(ay d.natAbs).length:=sU (by rw[oV];exact h1);exact dG h2 h
def Sm.ng{z:Int}(h:Sm z):Sm (-z):=by
 have e:cY (-z)=cY z:=by unfold cY;rw[Int.natAbs_neg]
 unfold Sm at*;rw[e];exact h
def Vi(n d:Int)(hd:d≠0)(hn:Sm n)(rJ:Sm d):aG Tryz.prog 153 [aZ n,aZ d] (aQ (Rat.divInt n d)):=by
 refine aX Tryz.func153 ae ae ae ae ae ak ?_;have Q5:Int.gcd n d≠0:=λh0=>hd (OL.1 h0).2
 obtain⟨p1,p2⟩:=Hn n d hd;have qw:Sm ((Int.gcd n d:Nat):Int):=Sm.gcd hd rJ;refine rr ae (rb (rc ae ae (Yv n d hn rJ) (re ae (aj (rb (rc ae ae (BS d) (re ae ?_)))))));refine ax ae (λh=>?_) (λh=>?_)
 ·have h:d<0:=by
   have h:cH d<0:=cd;unfold cH at h;split at h
   ·assumption
   ·(try split at h)<;>omega
  rw[aw h]at p1 p2;refine cG (rc ae ae (QD _) (re ae (ai (rb ?_))));refine rc ae ae (Od n _ af hn (Sm.ng qw)) (rc ae ae (Od d _ af rJ (Sm.ng qw)) (re ae (aF (aL ar ae (au.of_eq ?_)))));unfold aQ;simp only[av,p1,p2];rfl
 ·have h:¬d<0:=by
   have h:¬cH d<0:=cd;unfold cH at h;split at h
   ·omega
   ·assumption
  rw[aq h]at p1 p2;refine aC (ai (rb ?_));refine rc ae ae (Od n _ af hn qw) (rc ae ae (Od d _ af rJ qw) (re ae (aF (aL ar ae (au.of_eq ?_)))));unfold aQ;simp only[av,p1,p2];rfl
def aq0(n d:Int)(hd:d≠0)(hn:Sm n)(rJ:Sm d):aG Tryz.prog 119 [aZ n,aZ d] (.t [(true,av .q (Rat.divInt n d)),(false,[.I .i64 0])]):=by
 refine aX Tryz.func119 ae ae ae ae ae ak ?_;refine rr ae (aj (rb (rc ae ae (BS d) (re ae ?_))));refine ax ae (λh=>?_) (λh=>?_)
 ·exfalso;have h:cH d=0:=cd;unfold cH at h;split at h
  ·omega
  ·(try split at h)<;>omega
 ·refine aC (ai (rb (rc ae ae (Vi n d hd hn rJ) (re ae (aF (aL ar ae (au.of_eq ?_)))))));rfl
def afo{k:Nat}(a b:Rat)(ha:QS k a)(hb:QS k b)(hk:k≤100000000000):aG Tryz.prog 82 [aQ a,aQ b] (aQ (a*b)):=by
 refine aX Tryz.func82 ae ae ae ae ae ak ?_;have hd:=Ba (den_pos a) (den_pos b);have e:Rat.divInt (a.num*b.num) ((a.den:Int)*(b.den:Int))=a*b:=by rw[←F4,oW,oW]
 rw[←e];refine rr ae (rb (rc ae ae (tU _ _ (ha.n.sm af) (hb.n.sm af)) (rc ae ae (tU _ _ (ha.d.sm af) (hb.d.sm af)) (rc ae ae (Vi _ _ af ((ha.n.mul hb.n).sm af) ((ha.d.mul hb.d).sm af)) (re ae (aF (aL ar ae (au.of_eq ?_))))))));rfl
def afp{k:Nat}(a b:Rat)(ha:QS k a)(hb:QS k b)(hk:k≤100000000000):aG Tryz.prog 121 [aQ a,aQ b] (aQ (a+b)):=by
 refine aX Tryz.func121 ae ae ae ae ae ak ?_;have m1:=ha.n.mul hb.d;have m2:=hb.n.mul ha.d;have m3:=ha.d.mul hb.d;have hs:=m1.add m2;have hd:=Ba (den_pos a) (den_pos b);have e:Rat.divInt (a.num*(b.den:Int)+b.num*(a.den:Int)) ((a.den:Int)*(b.den:Int))=a+b:=by have h1:=den_pos a;have h2:=den_pos b;rw[←VZ _ _ af af,oW,oW]
 rw[←e];refine rr ae (rb (rc ae ae (tU _ _ (ha.n.sm af) (hb.d.sm af)) (rc ae ae (tU _ _ (hb.n.sm af) (ha.d.sm af)) (rc ae ae (X9 _ _ (m1.sm af) (m2.sm af)) (rc ae ae (tU _ _ (ha.d.sm af) (hb.d.sm af)) (rc ae ae (Vi _ _ af (hs.sm af) (m3.sm af)) (re ae (aF (aL ar ae (au.of_eq ?_))))))))));rfl
def afq(a:Rat):aG Tryz.prog 56 [aQ a] (aQ (-a)):=by refine aX Tryz.func56 ae ae ae ae ae ak ?_;refine rr ae (rb (rc ae ae (QD a.num) (re ae (aF (aL ar ae (au.of_eq ?_))))));rfl
def aq1{k:Nat}(a b:Rat)(ha:QS k a)(hb:QS k b)(hk:k≤100000000000):aG Tryz.prog 55 [aQ a,aQ b] (cI (dn (a.num*(b.den:Int)) (b.num*(a.den:Int)))):=by refine aX Tryz.func55 ae ae ae ae ae ak ?_;refine rr ae (rb (rc ae ae (tU _ _ (ha.n.sm af) (hb.d.sm af)) (rc ae ae (tU _ _ (hb.n.sm af) (ha.d.sm af)) (rc ae ae (X8 _ _) (re ae (aF (aL ar ae (au.refl _))))))))
def aq2{k:Nat}(a b:Rat)(et:b.num≠0)(ha:QS k a)(hb:QS k b)(hk:k≤100000000000):aG Tryz.prog 51 [aQ a,aQ b] (.t [(true,av .q (a/b)),(false,[.I .i64 0])]):=by
 refine aX Tryz.func51 ae ae ae ae ae ak ?_;have aN:(a.den:Int)*b.num≠0:=J0 (by have:=den_pos a;omega) et;have e:Rat.divInt (a.num*(b.den:Int)) ((a.den:Int)*b.num)=a/b:=by rw[←F4,oW,Rat.div_def];congr 1;conv=>rhs;rw[←oW b,Rat.inv_divInt]
 rw[←e];refine rr ae (rb (rc ae ae (tU _ _ (ha.n.sm af) (hb.d.sm af)) (rc ae ae (tU _ _ (ha.d.sm af) (hb.n.sm af)) (rc ae ae (aq0 _ _ aN ((ha.n.mul hb.d).sm af) ((ha.d.mul hb.n).sm af)) (re ae (aF (aL ar ae (au.of_eq ?_))))))));rfl
def afr(a:Int)(ha:Sm a):aG Tryz.prog 120 [aZ a] (cB true):=by
 refine aX Tryz.func120 ae ae ae ae ae ak ?_;have hlen:(ay a.natAbs).length≤1099511627776:=ha;have Xt:(cY a).length≤1099511627776:=ha;refine rr ae (rr ae (aj (rr ae (ax ae (λh=>?_) (λh=>aC (ai ?_))))))
 ·have h:((ay a.natAbs).length:Int)=0:=eq_of_beq h;have h0:a=0:=by have:¬0<(ay a.natAbs).length:=af;rw[m6]at this;omega
  subst h0;exact rr ae (aF (bW (aL ar ae (au.refl _))))
 ·have h:((ay a.natAbs).length:Int)≠0:=kN h;have oD:0<(cY a).length:=by show 0<(ay a.natAbs).length;omega
  refine rr ae (hp:=aR) (aF (aL ar ae (au.of_eq ?_)));have hc:=uO a.natAbs;refine az cB ?_;rcases hc with e|e
  ·rw[e]at h;simp at h
  ·show((ay a.natAbs).getD (((ay a.natAbs).length:Int)-1).toNat 0 !=0)=true;rw[show(((ay a.natAbs).length:Int)-1).toNat=(ay a.natAbs).length-1 by omega];simpa using e
def afs(a b:Int)(ha:Sm a):aG Tryz.prog 76 [aZ a,aZ b] (cB (decide (a=b))):=by
 refine aX Tryz.func76 ae ae ae ae ae ak ?_;have ha:(cY a).length≤1099511627776:=ha;refine rr ae (aj (rb (rg 11 ae ae (λh=>?_) (λh=>?_))))
 ·have h:bN a≠bN b:=MY.1 h;refine re ae (ax ae (λ_=>rr ae (aF (bW (aL ar ae (au.of_eq (az cB ?_)))))) (λh2=>by cases h2));rw[kq (λe=>h se)]
 ·have h:bN a=bN b:=by
   have h:¬(bN a !=bN b)=true:=by rw[h];decide
   rw[MY]at h;exact Decidable.not_not.1 h
  refine re ae (ax ae (λh2=>?_) (λh2=>aC (ai ?_)))
  ·have h2:=qA h2;refine rr ae (aF (bW (aL ar ae (au.of_eq (az cB ?_)))));rw[kq (λe=>h2 se)]
  ·have h2:=qC h2;have hl:(cY a).length=(cY b).length:=af;refine aj (rr ae (aK (bA (α:=Nat) (λi=>⟨[(2,.c (.P 0 0)),(3,.c (.P 1000 0)),(5,cI i)],[(0,.box 44 0 (av .z a)),(1000,.box 44 0 (av .z b))],4,[]⟩) (λi=>i≤(cY a).length∧(cY a).take i=(cY b).take i) (λi=>(cY a).length-i) 0 ⟨bK _,by simp⟩ (wk ⟨sR ae,sR ae,sR ae,ah⟩ ⟨bE ae ae,bE ae ae,ah⟩) ?_)));rintro i ⟨hi,ht⟩;refine aj (rr ae (ax ae (λh3=>?_) (λh3=>?_)))
   ·have h3:i<(cY a).length:=by have h3:(i:Int)<((cY a).length:Int):=bc h3;omega
    refine aC (ai (aj (aK (rr ae (hp:=aR) (ax ae (λh4=>?_) (λh4=>aC (a7 (ai ?_))))))))
    ·have h4:(cY a).getD i 0≠(cY b).getD i 0:=qA h4;refine rr ae (aF ?_);repeat(first|refine bW ?_|refine fC ?_|refine ix ?_)
     refine aL ar ae (au.of_eq (az cB ?_));rw[kq (λe=>h4 se)]
    ·have h4:(cY a).getD i 0=(cY b).getD i 0:=qC h4;exact rt ae (a8 (i+1) ⟨h3,by rw[px _ i h3,px _ i af,ht,h4]⟩ (by show(cY a).length-(i+1)<(cY a).length-i;omega) (wk ⟨sR ae,sR ae,sR ae,ah⟩ ⟨bE ae ae,bE ae ae,ah⟩))
   ·have h3:i=(cY a).length:=by have h3:¬(i:Int)<((cY a).length:Int):=bC h3;omega
    subst h3;rw[iV,lD af]at ht;refine bp (bu (br (bq (ai (rr ae (aF (aL ar ae (au.of_eq (az cB ?_)))))))));rw[ov (abZ h ht)]
def afu{k:Nat}(a b:Rat)(ha:QS k a)(hk:k≤100000000000):aG Tryz.prog 20 [aQ a,aQ b] (cB (decide (a=b))):=by
 refine aX Tryz.func20 ae ae ae ae ae ak ?_;refine rr ae (rb (rc ae ae (afs a.num b.num (ha.n.sm af)) (rg 10 ae ae (λh=>?_) (λh=>?_))))
 ·have h:a.num=b.num:=bc h;refine ia ae ae ae ae ae (afs (a.den:Int) (b.den:Int) (ha.d.sm af)) (re ae (aF (aL ar ae (au.of_eq ?_))));refine az cB ?_;by_cases e:(a.den:Int)=(b.den:Int)
  ·rw[ov e,ov (Rat.ext h af)];rfl
  ·rw[kq e,kq (λe2=>e (by rw[e2]))];rfl
 ·have h:¬a.num=b.num:=bC h;refine re ae (aF (aL ar ae (au.of_eq ?_)));refine az cB ?_;rw[kq (λe2=>h (by rw[e2]))]
def aq3{k:Nat}(a:Rat)(ha:QS k a)(hk:k≤100000000000):aG Tryz.prog 52 [aQ a] (cB true):=by
 refine aX Tryz.func52 ae ae ae ae ae ak ?_;have hd:=den_pos a;refine rr ae (aj (rb (rc ae ae (afr a.num (ha.n.sm af)) (rg 7 ae ae (λh=>by cases h) (λ_=>?_)))));refine ia ae ae ae ae ae (afr (a.den:Int) (ha.d.sm af)) (rg 13 ae ae (λh=>by cases h) (λ_=>?_));refine ia ae ae ae ae ae (BS (a.den:Int)) (re ae (ax ae (λh=>?_) (λ_=>aC (ai ?_))))
 ·exfalso;have h:cH (a.den:Int)<1:=bc h;unfold cH at h;split at h
  ·omega
  ·split at h<;>omega
 have hg:=Yv a.num (a.den:Int) (ha.n.sm af) (ha.d.sm af);have e:Int.gcd a.num (a.den:Int)=1:=a.reduced;rw[e]at hg;refine rb (rc ae ae hg (rc ae ae (BR 1 ak ak) (rc ae ae (X8 ((1:Nat):Int) 1) (re ae (aF (aL ar ae (au.refl _)))))))
def afv(xs:List Rat)(hl:xs.length≤1000000):aG Tryz.prog 179 [cS .q xs] (cS .q (eh xs)):=by
 refine aX Tryz.func179 ae ae ae ae ae ak ?_;refine rr ae (rr ae ?_);refine aj (aK (bA (α:=Nat) (λk=>⟨[(0,cS .q xs),(3,cI k)],[],2,[]⟩) (λk=>k≤xs.length∧iP xs k=iP xs xs.length) (λk=>k) xs.length ⟨bF _,ae⟩ ck ?_));rintro k ⟨hk,iO⟩;have fin:iP xs k=k→au (cS .q (List.take k xs)) (cS .q (eh xs)):=λe=>by refine au.of_eq ?_;unfold eh;rw[←iO,e]
 refine aj (rb ?_);refine rg 8 ae ae (λh=>?_) (λh=>?_)
 ·have h:0<k:=by have h:(k:Int)>0:=bc h;omega
  obtain⟨j,rfl⟩:∃j,k=j+1:=⟨k-1,by omega⟩;have ej:(((j+1:Nat):Int)-1).toNat=j:=af;refine ia ae ae ae ae ae (Ek (xs.getD (((j+1:Nat):Int)-1).toNat 0)) (re ae ?_) (hp:=jN);refine ax ae (λh2=>?_) (λh2=>?_)
  ·have h2:(xs.getD j 0).num=0:=by have h2:cH (xs.getD (((j+1:Nat):Int)-1).toNat 0).num=0:=eq_of_beq h2;rw[ej]at h2;exact uu.1 h2
   refine aC (ai (aK (rt ae (a7 (a8 j ⟨by omega,?_⟩ pP (wk ⟨sR ae,sE ae ?_,ah⟩ ah))) (hp:=jN))))
   ·rw[←iO,iP,aw h2]
   ·exact az (λz=>AV.c (C.I .i64 z)) (show((j+1:Nat):Int)-1=(j:Int)by omega)
  ·have h2:(xs.getD j 0).num≠0:=by have h2:cH (xs.getD (((j+1:Nat):Int)-1).toNat 0).num≠0:=kN h2;rw[ej]at h2;exact λe=>h2 (uu.2 e)
   exact bp (bu (br (bq (ai (rr ae (aF (aL ar ae (fin (by rw[iP,aq h2])))) (hp:=aR))))))
 ·have h:k=0:=by have h:¬(k:Int)>0:=bC h;omega
  subst h;exact re ae (ax ae (λh2=>by cases h2) (λ_=>bp (bu (br (bq (ai (rr ae (aF (aL ar ae (fin ae))) (hp:=aR))))))))
def afw(a:List Rat)(i:Nat):aG Tryz.prog 178 [cS .q a,cI i] (aQ (a.getD i 0)):=by
 refine aX Tryz.func178 ae ae ae ae ae ak ?_;refine rr ae (aj (rr ae (ax ae (λh=>?_) (λh=>?_))))
 ·have h:i<a.length:=by have h:(i:Int)<(a.length:Int):=bc h;omega
  refine rr ae (hp:=aR) (aF (bW (aL ar ae (au.of_eq ?_))));rfl
 ·have h:¬i<a.length:=by have h:¬(i:Int)<(a.length:Int):=bC h;omega
  refine aC (ai (rb (rc ae ae (yg 0 ak ak) (re ae (aF (aL ar ae (au.of_eq ?_)))))));rw[Rx.nK a af];rfl
def aq4(xs:List Rat)(hl:xs.length≤1000000):EH Tryz.prog 179 [.c (.X 2002000)] [(2002000,.vec 46 .q xs)] (cS .q (eh xs)):=by
 refine ZG 3 Tryz.func179 ae ae ae (λid al=>by rw[jw.1 al];decide) (eO.of ae) ae ak ?_;refine dv (oC 2002000 ae) ?_;refine rr ae (rr ae ?_);refine aj (aK (bA (α:=Nat) (λk=>⟨[(0,cS .q xs),(3,cI k)],[],5,[]⟩) (λk=>k≤xs.length∧iP xs k=iP xs xs.length) (λk=>k) xs.length ⟨bF _,ae⟩ ck ?_));rintro k ⟨hk,iO⟩;have fin:iP xs k=k→au (cS .q (List.take k xs)) (cS .q (eh xs)):=λe=>by refine au.of_eq ?_;unfold eh;rw[←iO,e]
 refine aj (rb ?_);refine rg 8 ae ae (λh=>?_) (λh=>?_)
 ·have h:0<k:=by have h:(k:Int)>0:=bc h;omega
  obtain⟨j,rfl⟩:∃j,k=j+1:=⟨k-1,by omega⟩;have ej:(((j+1:Nat):Int)-1).toNat=j:=af;refine ia ae ae ae ae ae (Ek (xs.getD (((j+1:Nat):Int)-1).toNat 0)) (re ae ?_) (hp:=jN);refine ax ae (λh2=>?_) (λh2=>?_)
  ·have h2:(xs.getD j 0).num=0:=by have h2:cH (xs.getD (((j+1:Nat):Int)-1).toNat 0).num=0:=eq_of_beq h2;rw[ej]at h2;exact uu.1 h2
   refine aC (ai (aK (rt ae (a7 (a8 j ⟨by omega,?_⟩ pP (wk ⟨sR ae,sE ae ?_,ah⟩ ah))) (hp:=jN))))
   ·rw[←iO,iP,aw h2]
   ·exact az (λz=>AV.c (C.I .i64 z)) (show((j+1:Nat):Int)-1=(j:Int)by omega)
  ·have h2:(xs.getD j 0).num≠0:=by have h2:cH (xs.getD (((j+1:Nat):Int)-1).toNat 0).num≠0:=kN h2;rw[ej]at h2;exact λe=>h2 (uu.2 e)
   exact bp (bu (br (bq (ai (rr ae (aF (Sj ar ae (fin (by rw[iP,aq h2])))) (hp:=aR))))))
 ·have h:k=0:=by have h:¬(k:Int)>0:=bC h;omega
  subst h;exact re ae (ax ae (λh2=>by cases h2) (λ_=>bp (bu (br (bq (ai (rr ae (aF (Sj ar ae (fin ae))) (hp:=aR))))))))
def uE(a:List Rat):List Rat:=eh (0::a)
def aq5(a:List Rat)(la:a.length≤1000):aG Tryz.prog 117 [cS .q a] (cS .q (uE a)):=by
 refine aX Tryz.func117 ae ae ae ae ae ak ?_;refine rr ae (rb (rc ae ae (yg 0 ak ak) (x8 .q [((0:Int):Rat)] ae ae (re ae ?_))));refine rb (ra ae ae ae ae ae ae ae ae ae ?_ ?_ (rcc (conc:=[]) (fm:=[(2002000,.vec 46 .q (((0:Int):Rat)::a))]) ae ae (aq4 _ JK) (λid b h=>rfl) (re ae (aF (aL ar ae (au.refl _))))))
 ·show(1+a.length+(1+a.length)/4+192)*64≤_;omega
 ·show(1+a.length)*4≤_;omega
def Jx(a b:List Rat):List Rat:=eh ((List.range (max a.length b.length)).map λi=>a.getD i 0+b.getD i 0)
def sb(c:Rat)(b:List Rat):List Rat:=eh ((List.range b.length).map λi=>c*b.getD i 0)
def afx(f:Nat→Rat)(i:Nat):(List.range (i+1)).map f=(List.range i).map f++[f i]:=by rw[pW,dZ];rfl
def aq6{k:Nat}(c:Rat)(b:List Rat)(lb:b.length≤1000)(hc:QS k c)(hb:∀i,QS k (b.getD i 0))(hk:k≤100000000000):aG Tryz.prog 118 [aQ c,cS .q b] (cS .q (sb c b)):=by
 refine aX Tryz.func118 ae ae ae ae ae ak ?_;refine rr ae (rb (x8 .q [] ae ae (re ae (aj (rr ae ?_)))));refine aK (bA (α:=Nat) (λi=>⟨[(1,cS .q b),(2,.c (.P 0 0)),(5,.c (.X 1000000)),(6,cI i)],[(0,.box 46 0 (av .q c)),(1000000,.vec 46 .q ((List.range i).map λi=>c*b.getD i 0))],10,[]⟩) (λi=>i≤b.length) (λi=>b.length-i) 0 (bK _) (wk ⟨sR ae,sR ae,sR ae,sE ae ae,ah⟩ ⟨bR ae,bR ae,ah⟩) ?_);intro i hi;have sX:((List.range i).map λi=>c*b.getD i 0).length=i:=be;refine aj (rr ae (ax ae (λh=>?_) (λh=>?_)))
 ·have h:i<b.length:=by have h:(i:Int)<(b.length:Int):=bc h;omega
  have ei:((i:Int)).toNat=i:=bw i;have sT:=afo c (b.getD ((i:Int)).toNat 0) hc (hb _) hk;refine aC (ai (aj (aK (cG ?_))));refine rc ae ae sT ?_ (hp:=aR);refine rl .q [c*b.getD ((i:Int)).toNat 0] ae ae (ra ae ae ae ae ae ae ae ae ae ?_ ?_ (re ae (a7 (ai (rt ae (hp:=aR) (a8 (i+1) h (by show b.length-(i+1)<b.length-i;omega) (Wk.trans (wk (st':=⟨[(1,cS .q b),(2,.c (.P 0 0)),(5,.c (.X 11008000)),(6,cI (i+1:Nat))],[(0,.box 46 0 (av .q c)),(11008000,.vec 46 .q ((List.range (i+1)).map λi=>c*b.getD i 0))],13,[]⟩) ⟨sR ae,sR ae,sR ae,sR ae,ah⟩ ⟨bR ae,bE ae ?_,ah⟩) (Wk.trans (qq 1000000 11008000 ae ae ae) ck))))))))
  ·show(((List.range i).map λi=>c*b.getD i 0).length+1+(((List.range i).map λi=>c*b.getD i 0).length+1)/4+192)*64≤_;omega
  ·show(((List.range i).map λi=>c*b.getD i 0).length+1)*4≤_;omega
  ·rw[afx,ei]
 ·have h:i=b.length:=by have h:¬(i:Int)<(b.length:Int):=bC h;omega
  subst h;exact bp (bu (br (bq (ai (dv (oC 1000000 ae) (rb (rc ae ae (afv _ af) (re ae (aF (aL ar ae (au.refl _)))))))))))
def aq7{k:Nat}(a b:List Rat)(la:a.length≤1000)(lb:b.length≤1000)(ha:∀i,QS k (a.getD i 0))(hb:∀i,QS k (b.getD i 0))(hk:k≤100000000000):aG Tryz.prog 116 [cS .q a,cS .q b] (cS .q (Jx a b)):=by
 refine aX Tryz.func116 ae ae ae ae ae ak ?_;refine rr ae (rb (x8 .q [] ae ae (re ae (aj (rr ae ?_)))));obtain⟨M,hM⟩:∃M,M=max a.length b.length:=⟨_,ae⟩;have hMi:(if(a.length:Int)<(b.length:Int)then(b.length:Int)else(a.length:Int))=(M:Int):=by rw[hM];split<;>omega
 refine aK (bA (α:=Nat) (λi=>⟨[(0,cS .q a),(1,cS .q b),(5,.c (.X 1000000)),(6,cI i)],[(1000000,.vec 46 .q ((List.range i).map λi=>a.getD i 0+b.getD i 0))],10,[]⟩) (λi=>i≤M) (λi=>M-i) 0 (bK _) (wk ⟨sR ae,sR ae,sR ae,sE ae ae,ah⟩ ⟨bR ae,ah⟩) ?_);intro i hi;have sX:((List.range i).map λi=>a.getD i 0+b.getD i 0).length=i:=be;refine aj (rr ae (ax ae (λh=>?_) (λh=>?_)))
 ·have h:i<M:=by have h:(i:Int)<_:=bc h;rw[aw ae]at h;split at h<;>omega
  have CW:=afp (a.getD i 0) (b.getD i 0) (ha i) (hb i) hk;refine aC (ai (aj (aK (cG ?_))));refine rc ae ae (afw a i) (rc ae ae (afw b i) (rc ae ae CW ?_));refine rl .q [a.getD i 0+b.getD i 0] ae ae (ra ae ae ae ae ae ae ae ae ae ?_ ?_ (re ae (a7 (ai (rt ae (hp:=aR) (a8 (i+1) h FQ (Wk.trans (wk (st':=⟨[(0,cS .q a),(1,cS .q b),(5,.c (.X 11009000)),(6,cI (i+1:Nat))],[(11009000,.vec 46 .q ((List.range (i+1)).map λi=>a.getD i 0+b.getD i 0))],13,[]⟩) ⟨sR ae,sR ae,sR ae,sR ae,ah⟩ ⟨bE ae ?_,ah⟩) (Wk.trans (qq 1000000 11009000 ae ae ae) ck))))))))
  ·show(((List.range i).map λi=>a.getD i 0+b.getD i 0).length+1+(((List.range i).map λi=>a.getD i 0+b.getD i 0).length+1)/4+192)*64≤_;omega
  ·show(((List.range i).map λi=>a.getD i 0+b.getD i 0).length+1)*4≤_;omega
  ·rw[afx]
 ·have h:i=M:=by have h:¬(i:Int)<_:=bC h;rw[aw ae]at h;split at h<;>omega
  subst h;subst hM;exact bp (bu (br (bq (ai (dv (oC 1000000 ae) (rb (rc ae ae (afv _ af) (re ae (aF (aL ar ae (au.refl _)))))))))))
def Oe(l:List Rat)(i:Nat):(eh l).getD i 0=l.getD i 0:=by have:=az (λA:Rx=>A i) (Rx.vT l);exact this
def afy(f:Nat→Rat)(n i:Nat):((List.range n).map f).getD i 0=if i<n then f i else 0:=by
 rw[aY,j3];by_cases h:i<n
 ·rw[ot h,aw h];rfl
 ·rw[ni cO,aq h];rfl
def afz(a b:List Rat)(i:Nat):(Jx a b).getD i 0=a.getD i 0+b.getD i 0:=by
 rw[Jx,Oe,afy];split
 ·rfl
 ·rw[Rx.nK a af,Rx.nK b af,sk]
def Vj(c:Rat)(b:List Rat)(i:Nat):(sb c b).getD i 0=c*b.getD i 0:=by
 rw[sb,Oe,afy];split
 ·rfl
 ·rw[Rx.nK b af,jG]
def afA(a:List Rat)(i:Nat):(uE a).getD i 0=(0::a).getD i 0:=Oe _ i
def aq8(a b:List Rat):Rx.lx (Jx a b)=Rx.lx a+Rx.lx b:=Rx.ext λi=>afz a b i
def aq9(c:Rat)(b:List Rat):Rx.lx (sb c b)=Rx.K c*Rx.lx b:=Rx.ext λi=>by rw[Rx.iA];exact Vj c b i
def aq'(a:List Rat):Rx.lx (uE a)=Rx.X 1*Rx.lx a:=by rw[uE,Rx.vT,Rx.IA,Rx.mA,Rx.zero_add]
def FD(l:List Rat):(eh l).length≤l.length:=VP
def jg(a b:List Rat):Nat→List Rat
 |0=>[]
 |j+1=>Jx (uE (jg a b j)) (sb (a.getD (a.length-1-j) 0) b)
def afB(a:List Rat){j:Nat}(h:j<a.length):a.drop (a.length-(j+1))=a.getD (a.length-1-j) 0::a.drop (a.length-j):=by rw[pR (show a.length-(j+1)<a.length by omega),show a.length-(j+1)+1=a.length-j by omega,aY,ct (show a.length-1-j<a.length by omega)];simp only[show a.length-(j+1)=a.length-1-j by omega];rfl
def Vk(a b:List Rat):∀j,j≤a.length→Rx.lx (jg a b j)=Rx.lx (a.drop (a.length-j))*Rx.lx b
 |0,_=>by rw[jg,A9,JY,Rx.xi,Rx.zero_mul]
 |j+1,h=>by rw[jg,aq8,aq',aq9,Vk a b j af,afB a af,Rx.IA,Rx.add_mul,Rx.mul_assoc,Rx.add_comm]
def afC(a b:List Rat)(j:Nat):Rx.dp (jg a b j):=by
 cases j with
 |zero=>exact Rx.IB
 |succ j=>exact Rx.yQ _
def afD(a b:List Rat):∀j,(jg a b j).length≤j+b.length
 |0=>by simp[jg]
 |j+1=>by
  have h1:=afD a b j;have h2:=FD (0::jg a b j);have h3:(sb (a.getD (a.length-1-j) 0) b).length≤b.length:=by have:=FD ((List.range b.length).map λi=>a.getD (a.length-1-j) 0*b.getD i 0);simpa[sb]using this
  have h4:=FD ((List.range (max (uE (jg a b j)).length (sb (a.getD (a.length-1-j) 0) b).length)).map λi=>(uE (jg a b j)).getD i 0+(sb (a.getD (a.length-1-j) 0) b).getD i 0);rw[dJ,A1]at h4;rw[fk]at h2;have h5:(jg a b (j+1)).length≤max (uE (jg a b j)).length (sb (a.getD (a.length-1-j) 0) b).length:=h4;have h6:(uE (jg a b j)).length≤(jg a b j).length+1:=h2;omega
def afE{k:Nat}{a:List Rat}(hk:1≤k)(h:∀i,QS k (a.getD i 0))(i:Nat):QS k ((0::a).getD i 0):=by
 cases i with
 |zero=>exact QS.zero hk
 |succ i=>exact h i
def afF{k:Nat}{a b:List Rat}(ha:∀i,QS k (a.getD i 0))(hb:∀i,QS k (b.getD i 0)):∀j,∀i,QS (2^j*(2*k+2)-1) ((jg a b j).getD i 0)
 |0,i=>QS.zero af
 |j+1,i=>by
  have hp:1≤2^j:=mh ak;have hm:2*k+2≤2^j*(2*k+2):=by have:=dY (2*k+2) hp;omega
  have h1:QS (2^j*(2*k+2)-1) ((uE (jg a b j)).getD i 0):=by rw[afA];exact afE af (afF ha hb j) i
  have h2:QS (2^j*(2*k+2)-1) ((sb (a.getD (a.length-1-j) 0) b).getD i 0):=by rw[Vj];exact((ha _).mul (hb i)).le af
  rw[jg,afz];exact(h1.add h2).le (by rw[iX,g9 (2^j) 2,xG];omega)
def ara{k:Nat}(hk:k≤100000)(a b:List Rat)(la:a.length≤12)(lb:b.length≤100)(ha:∀i,QS k (a.getD i 0))(hb:∀i,QS k (b.getD i 0)):aG Tryz.prog 44 [cS .q a,cS .q b] (cS .q (jg a b a.length)):=by
 refine aX Tryz.func44 ae ae ae ae ae ak ?_;have hQ:=afF ha hb;have hp:∀j,j≤12→2^j*(2*k+2)-1≤1000000000:=λj hj=>by have h1:2^j≤2^12:=jP ak hj;have h2:=dY (2*k+2) h1;omega
 refine rr ae (rb (x8 .q [] ae ae (re ae (aj (rr ae ?_)))));refine dv (oC 1000000 ae) ?_;refine aK (bA (α:=Nat) (λj=>⟨[(0,cS .q a),(1,cS .q b),(5,cS .q (jg a b j)),(6,cI ((a.length:Int)-1-j))],[],10,[]⟩) (λj=>j≤a.length) (λj=>a.length-j) 0 (bK _) (wk ⟨sR ae,sR ae,sE ae ae,sE ae ?_,ah⟩ ah) ?_)
 ·exact az cI af
 intro j hj;refine aj (rr ae (ax ae (λh=>?_) (λh=>?_)))
 ·have h:j<a.length:=by have h:(a.length:Int)-1-(j:Int)≥0:=bc h;omega
  have ei:((a.length:Int)-1-(j:Int)).toNat=a.length-1-j:=af;have hl:=afD a b j;have hpj:=hp j af;have yr:1≤2^j:=mh ak;have hm:2*k+2≤2^j*(2*k+2):=by have:=dY (2*k+2) yr;omega
  have NV:=aq6 (k:=k) (a.getD ((a.length:Int)-1-(j:Int)).toNat 0) b af (ha _) hb af;have xf:(sb (a.getD ((a.length:Int)-1-(j:Int)).toNat 0) b).length≤b.length:=by have:=FD ((List.range b.length).map λi=>a.getD ((a.length:Int)-1-(j:Int)).toNat 0*b.getD i 0);simpa[sb]using this
  have atk:(uE (jg a b j)).length≤(jg a b j).length+1:=by have:=FD (0::jg a b j);rwa[fk]at this
  have CW:=aq7 (k:=2^j*(2*k+2)-1) (uE (jg a b j)) (sb (a.getD ((a.length:Int)-1-(j:Int)).toNat 0) b) af af (λi=>by rw[afA];exact afE af (hQ j) i) (λi=>by rw[Vj];exact((ha _).mul (hb i)).le af) af;refine aC (ai (aj (aK (cG ?_))));refine rc ae ae (aq5 (jg a b j) af) ?_;refine rc ae ae NV ?_ (hp:=aR);refine rc ae ae CW (re ae (a7 (ai (rt ae (hp:=aR) (a8 (j+1) h VQ (wk ⟨sR ae,sR ae,sE ae ?_,sE ae ?_,ah⟩ ah))))))
  ·rw[ei];rfl
  ·exact az cI af
 ·have h:j=a.length:=by have h:¬(a.length:Int)-1-(j:Int)≥0:=bC h;omega
  subst h;exact bp (bu (br (bq (ai (rr ae (aF (aL ar ae (au.refl _))))))))
def jX(a:List Rat)(x:Rat):Nat→Rat
 |0=>0
 |j+1=>jX a x j*x+a.getD (a.length-1-j) 0
def afG{k:Nat}{a:List Rat}{x:Rat}(ha:∀i,QS k (a.getD i 0))(hx:QS k x)(hk:1≤k):∀j,QS (4^j*(k+1)-1) (jX a x j)
 |0=>QS.zero af
 |j+1=>by
  have hp:1≤4^j:=mh ak;have hm:k+1≤4^j*(k+1):=by have:=dY (k+1) hp;omega
  have h1:=(afG ha hx hk j).mul (hx.le (by omega:k≤4^j*(k+1)-1));rw[jX];exact(h1.add ((ha _).le af)).le (by rw[iX,g9 (4^j) 4,xG];omega)
def afH{k:Nat}(fX:1≤k)(hk:k≤1000)(a:List Rat)(x:Rat)(la:a.length≤12)(ha:∀i,QS k (a.getD i 0))(hx:QS k x):aG Tryz.prog 54 [cS .q a,aQ x] (aQ (jX a x a.length)):=by
 refine aX Tryz.func54 ae ae ae ae ae ak ?_;have hQ:=afG ha hx fX;have hp:∀j,j≤12→4^j*(k+1)-1≤40000000000:=λj hj=>by have h1:4^j≤4^12:=jP ak hj;have h2:=dY (k+1) h1;omega
 refine rr ae (rb (rc ae ae (yg 0 ak ak) (re ae (aj (rr ae ?_)))));refine aK (bA (α:=Nat) (λj=>⟨[(0,cS .q a),(3,.c (.P 0 0)),(4,.c (.P 1000 0)),(5,.c (.P 1001000 0)),(6,cI ((a.length:Int)-1-j))],[(0,.box 46 0 (av .q x)),(1000,.box 46 0 [.B false,.V (.slice none 0 0),.B false,.V (.slice none 0 0)]),(1001000,.box 46 0 (av .q (jX a x j)))],10,[]⟩) (λj=>j≤a.length) (λj=>a.length-j) 0 (bK _) (wk ⟨sR ae,sR ae,sR ae,sR ae,sE ae ?_,ah⟩ ⟨bR ae,bE ae ae,bE ae ae,ah⟩) ?_)
 ·exact az cI af
 intro j hj;refine aj (rr ae (ax ae (λh=>?_) (λh=>?_)))
 ·have h:j<a.length:=by have h:(a.length:Int)-1-(j:Int)≥0:=bc h;omega
  have ei:((a.length:Int)-1-(j:Int)).toNat=a.length-1-j:=af;have hpj:=hp j af;have yr:1≤4^j:=mh ak;have hm:k+1≤4^j*(k+1):=by have:=dY (k+1) yr;omega
  have sT:=afo (k:=4^j*(k+1)-1) (jX a x j) x (hQ j) (hx.le af) af;have CW:=afp (k:=2*(4^j*(k+1)-1)) (jX a x j*x) (a.getD ((a.length:Int)-1-(j:Int)).toNat 0) ((hQ j).mul (hx.le af)) ((ha _).le af) af;refine aC (ai (aj (aK (cG ?_))));refine rc ae ae sT ?_;refine rc ae ae CW (re ae (a7 (ai (rt ae (hp:=aR) (a8 (j+1) h VQ (wk ⟨sR ae,sR ae,sR ae,sR ae,sE ae ?_,ah⟩ ⟨bR ae,bR ae,bE ae ?_,ah⟩)))))) (hp:=aR)
  ·exact az cI af
  ·rw[ei];rfl
 ·have h:j=a.length:=by have h:¬(a.length:Int)-1-(j:Int)≥0:=bC h;omega
  subst h;exact bp (bu (br (bq (ai (rr ae (aF (aL ar ae (au.refl _))))))))
end Go.El
namespace Go.El
open Go Go.Proofs Rx
def rL(fs:List (List Rat×Int)):List Rat:=jd 0 iz (iE fs) ((iE fs).length-1)
def Vl(fs:List (List Rat×Int)):(rL fs).Perm (iE fs):=by
 unfold rL;cases e:iE fs with
 |nil=>exact zf _
 |cons x l=>exact It _ _ JK
def FE(r:Rat):lx [-r,1]=X 1-K r:=by rw[IA,abu,mD,mul_one,Al,sub_def,add_comm]
def Og(r:Rat):sz (X 1-K r)=2:=by rw[←FE,dV (.inr OF)];rfl
def Oh(r:Rat):Mo (X 1-K r):=by rw[Mo,Og,←FE];rfl
def Jy(r:Rat):cp (X 1-K r):=aeh (Og r)
def Oi{q:List Rat}(h:q.length=2)(h1:q.getD (q.length-1) 0=1):q=[q.getD 0 0,1]:=by
 match q,h with
 |[c,d],_=>
  have h1:d=1:=h1
  rw[h1];rfl
def arc{a:List Rat}(h0:a≠[])(D:Rx)(hc:dp a):D∣lx (dI a)↔D∣lx a:=by obtain⟨h1,h2⟩:=Jm a;exact⟨λh=>dvd_trans h (h2 hc),λh=>dvd_trans h h1⟩
def Vm{Q:Rx}(hQ:cp Q):∀{l:List (List Rat×Int)},Q∣fK l→∃x∈l,Q∣lx x.1
 |[],h=>absurd h hQ.xb
 |x::l,h=>by
  rw[fK]at h;rcases hQ.rO h with e|e
  ·exact⟨x,by simp,(hQ.pk e).2⟩
  ·obtain⟨y,h1,h2⟩:=Vm hQ e;exact⟨y,by simp[h1],h2⟩
def afI{x:List Rat×Int}(h2:x.1.length=2):∀{l:List (List Rat×Int)},x∈l→-(x.1.getD 0 0)∈iE l
 |y::l,h=>by
  rw[iE];rcases dx.1 h with rfl|h
  ·rw[aw h2];simp
  ·exact jY _ (afI h2 h)
section
variable{a:List Rat}{fs:List (List Rat×Int)}
def ard(hc:dp a)(h0:a≠[])(h:sa a fs)(r:Rat):r∈rL fs↔X 1-K r∣lx a:=by
 rw[(Vl fs).mem_iff,←arc h0 _ hc,←h.prod];constructor
 ·intro hr;obtain⟨x,hx,h2,rfl⟩:=Jw hr;obtain⟨o1,o2,o3⟩:=h.ok x hx;have e:=Oi h2 o1;have:=Ve hx o3;rw[e]at this;rwa[←FE,Bc]
 ·intro hd;obtain⟨x,hx,h2⟩:=Vm (Jy r) hd;obtain⟨o1,o2,o3⟩:=h.ok x hx;obtain⟨c1,c2⟩:=AP o1;have e:=(Jy r).eq o2 (Oh r) c2 h2;rw[←FE]at e;have e2:=MJ (.inr OF) c1 e;have:=afI (x:=x) (by rw[←e2];rfl) hx;rw[←e2]at this;have e3: -([-r,1]:List Rat).getD 0 0=r:=by show- -r=r;exact Bc r
  rwa[e3]at this
def afJ:∀{l:List (List Rat×Int)},(∀x∈l,x.1.getD (x.1.length-1) 0=1)→l.Pairwise (λx y=>x.1≠y.1)→(iE l).Nodup
 |[],_,_=>List.Pairwise.nil
 |x::l,h,hp=>by
  obtain⟨p1,p2⟩:=jZ.1 hp;have ih:=afJ (λy hy=>h y oT) p2;rw[iE];split
  ·rename_i h2;refine zc.2 ⟨λhm=>?_,ih⟩;obtain⟨y,y1,y2,y3⟩:=Jw hm;refine p1 y y1 ?_;rw[Oi h2 (h x be),Oi y2 (h y (by simp[y1]))];have:x.1.getD 0 0=y.1.getD 0 0:=by rw[←Bc (x.1.getD 0 0),y3,Bc]
   rw[this]
  ·exact ih
def afK(h:sa a fs):(rL fs).Nodup:=(Vl fs).nodup_iff.2 (afJ (λx hx=>(h.ok x hx).1) h.yG)
def are(h:sa a fs){t:Nat}(ht:t+1<(rL fs).length):(rL fs).getD t 0<(rL fs).getD (t+1) 0:=by
 have hl:(rL fs).length=(iE fs).length:=by unfold rL;rw[Az]
 have ha:=Ta (d:=(0:Rat)) afe (iE fs) ((iE fs).length-1) af t af;have ha:0≤iz ((rL fs).getD (t+1) 0) ((rL fs).getD t 0):=ha;have hn:(rL fs).getD t 0≠(rL fs).getD (t+1) 0:=by have:=OG.1 (afK h) t (t+1) af ht af;rw[aY,ct af,aY,ct ht];exact this
 have h1:¬(rL fs).getD (t+1) 0<(rL fs).getD t 0:=λbh=>by rw[iz,aw bh]at ha;omega
 exact Rat.lt_of_le_of_ne (Rat.not_lt.1 h1) hn
def FF{α:Type}:∀{l m:List α},l.Nodup→(∀x∈l,x∈m)→l.length≤m.length
 |[],_,_,_=>bK _
 |x::l,m,hn,hs=>by
  obtain⟨n1,n2⟩:=zc.1 hn;obtain⟨s,t,rfl⟩:=Dc (hs x be);have:=FF (m:=s++t) n2 λy hy=>by
   have h1:=hs y oT;rcases bX.1 h1 with h1|h1
   ·exact fM _ h1
   ·rcases dx.1 h1 with h1|h1
    ·exact absurd (h1▸hy) n1
    ·exact jY _ h1
  simp only[ko,fk]at this⊢;omega
def afL(a:List Rat)(x:Rat):∀j,j≤a.length→∃Q,lx (a.drop (a.length-j))=Q*(X 1-K x)+K (jX a x j)
 |0,_=>⟨0,by rw[A9,JY,xi,jX,mA,zero_mul,zero_add]⟩
 |j+1,h=>by obtain⟨Q,hQ⟩:=afL a x j af;refine⟨X 1*Q+K (jX a x j),?_⟩;rw[afB a af,IA,hQ,jX,qE,gA,add_mul,mul_add,mul_sub (K (jX a x j)) (X 1) (K x),mul_comm (K (jX a x j)) (X 1)];have e:X 1*Q*(X 1-K x)=X 1*(Q*(X 1-K x)):=mul_assoc _ _ _;rw[e];generalize X 1*(Q*(X 1-K x))=A;generalize X 1*K (jX a x j)=B;generalize K (jX a x j)*K x=C;generalize K (a.getD (a.length-1-j) 0)=D;rw[sub_def];have:A+(B+ -C)+(C+D)=A+B+D+(C+ -C):=kI;rw[this,add_neg,add_zero];ac_rfl
def Vn(a:List Rat)(x:Rat):jX a x a.length=0↔X 1-K x∣lx a:=by
 obtain⟨Q,hQ⟩:=afL a x a.length (bF _);rw[iG,wi]at hQ;constructor
 ·intro h;exact⟨Q,by rw[hQ,h,mA,add_zero]⟩
 ·intro hd;rw[hQ]at hd;have h1:=wV hd (dvd_mul_left _ _);have h2:=vq h1 (by rw[Og];have:=Ez (jX a x a.length);omega);exact LQ (h2.trans mA.symm)
end
def arf{a:List Rat}(hc:dp a)(h0:a≠[]){D B:Nat}(hD:0<D)(hz:∀i,∃z:Int,z.natAbs≤B∧((D:Nat):Rat)*a.getD i 0=(z:Rat)):∃c,c≤B∧CD c B (lx (dI a)):=by
 have TS:((D:Nat):Rat)≠0:=AB af;obtain⟨w,w1,w2⟩:=hz (a.length-1);have hl:=hc.ne h0;have hw:w≠0:=λe=>by
  rw[e]at w2;rcases Dg.1 w2 with e|e
  ·exact TS e
  ·exact hl e
 have hinv:=ou _ hl;refine⟨w.natAbs,w1,⟨by omega,λi=>?_⟩⟩;obtain⟨z,h1,h2⟩:=hz i;rw[Fz h0,iA,l5];rcases Int.lt_or_gt_of_ne hw with bh|bh
 ·refine⟨-z,by omega,?_⟩;have e:((w.natAbs:Nat):Rat)= -(w:Rat):=by rw[←tu,show((w.natAbs:Nat):Int)= -w by omega,J2]
  rw[e,J2,←h2,←w2];grind
 ·refine⟨z,h1,?_⟩;have e:((w.natAbs:Nat):Rat)=(w:Rat):=by rw[←tu,show((w.natAbs:Nat):Int)=w by omega]
  rw[e,←h2,←w2];grind
def afM{a:List Rat}(hc:dp a)(h0:a≠[])(l9:a.length≤9){D:Nat}(hD:0<D)(hDM:D≤2^22)(hz:∀i,∃z:Int,z.natAbs≤2^22∧((D:Nat):Rat)*a.getD i 0=(z:Rat)):lA a:=by
 have hle:∀{m:Nat},m≤2^22→m≤2^1500:=λh=>dG h (Rx.N1 1500 (k:=22) ak)
 obtain⟨c,c1,c2⟩:=arf hc h0 hD hz;refine⟨hc,h0,l9,⟨(D:Int),by omega,hle hDM,λi=>?_⟩,⟨c,22,22,c2,c1,by decide,by omega⟩⟩;obtain⟨z,h1,h2⟩:=hz i;exact⟨z,hle h1,h2⟩
def ari(x:Int):(cf x).num.natAbs≤6∧((cf x).den=1∨(cf x).den=3):=by
 have h7:=Rb x;unfold cf;split
 ·generalize x.tmod 7=t at h7;have h:t= -6∨t= -5∨t= -4∨t= -3∨t= -2∨t= -1∨t=0∨t=1∨t=2∨t=3∨t=4∨t=5∨t=6:=af;rcases h with h|h|h|h|h|h|h|h|h|h|h|h|h<;>subst h<;>decide+kernel
 ·refine⟨?_,.inl ae⟩;show(x.tmod 7).natAbs≤6;omega
def Jz(l:List Int)(most:Nat):(ib l most).length≤most+1∧(∀i,((ib l most).getD i 0).num.natAbs≤6)∧(∀i,((ib l most).getD i 0).den=1∨((ib l most).getD i 0).den=3)∧True:=by
 have Mx:∀i,((ib l most).getD i 0).num.natAbs≤6∧(((ib l most).getD i 0).den=1∨((ib l most).getD i 0).den=3):=λi=>by
  rw[ib,Oe,aY,j3];cases(l.take (most+1))[i]? with
  |none=>exact⟨by decide,.inl ae⟩
  |some x=>exact ari x
 refine⟨?_,λi=>(Mx i).1,λi=>(Mx i).2,ah⟩;have:=FD ((l.take (most+1)).map cf);rw[dJ,fD]at this;unfold ib;omega
def afN(l:List Int)(most:Nat)(i:Nat):∃z:Int,z.natAbs≤18∧((3:Nat):Rat)*(ib l most).getD i 0=(z:Rat):=by
 obtain⟨_,h1,h2,_⟩:=Jz l most;have h1:=h1 i;have h2:=h2 i;generalize (ib l most).getD i 0=r at*;have h3:=IG r;rcases h2 with e|e
 ·refine⟨3*r.num,by omega,?_⟩;rw[e]at h3;rw[iW,←h3];show(3:Rat)*r=(3:Rat)*(1*r);grind
 ·refine⟨r.num,by omega,?_⟩;rw[e]at h3;exact h3
def Vo(l:List Int)(most:Nat):dp (ib l most):=yQ _
def Oj{l:List Int}{most:Nat}(hm:most≤8)(h0:ib l most≠[]):lA (ib l most):=by
 refine afM (Vo l most) h0 (by have:=(Jz l most).1;omega) (D:=3) ak ak λi=>?_
 obtain⟨z,h1,h2⟩:=afN l most i;exact⟨z,dG h1 ak,h2⟩
def arj(l:List Int)(most:Nat)(i:Nat):QS 1 ((ib l most).getD i 0):=by obtain⟨_,h1,h2,_⟩:=Jz l most;have h1:=h1 i;have h2:=h2 i;exact⟨aU.one af,aU.one af⟩
def ark{l:List Int}{most:Nat}(hm:most≤7)(h0:ib l most≠[]){x:Rat}(hx:x.num.natAbs≤128)(hd:x.den≤127):lA (jg (ib l most) [-x,1] (ib l most).length)∧lx (jg (ib l most) [-x,1] (ib l most).length)=lx (ib l most)*(X 1-K x):=by
 have hz:=afN l most;have hlen:=(Jz l most).1;have hc:=Vo l most;generalize ib l most=a at*;have e:lx (jg a [-x,1] a.length)=lx a*(X 1-K x):=by rw[Vk a _ _ (bF _),iG,wi,FE]
 have CP:=afC a [-x,1] a.length;have aN:lx a≠0:=Fw hc h0;have hs:=eK aN (Oh x).ne;rw[←e,dV CP,dV hc,Og]at hs;have oD:=cX.2 h0;refine⟨?_,e⟩;refine afM CP (λe0=>by rw[e0,mc]at hs;omega) af (D:=3*x.den) (by have:=x.den_pos;omega) af λi=>?_
 have hg:(jg a [-x,1] a.length).getD i 0=(if i=0 then 0 else a.getD (i-1) 0)-x*a.getD i 0:=by
  have h1:=az (λA:Rx=>A i) e;have h2:(jg a [-x,1] a.length).getD i 0=(lx a*(X 1-K x)) i:=h1;rw[h2,mul_comm,sub_mul,yn,pt,iA,l5];cases i with
  |zero=>rfl
  |succ i=>rfl
 have zO:=IG x;rw[hg];obtain⟨z,z1,z2⟩:=hz i;by_cases h:i=0
 ·rw[aw h];refine⟨-(x.num*z),?_,?_⟩
  ·rw[Int.natAbs_neg,sj];have:=nk hx z1;omega
  ·rw[J2,iW,←zO,←z2,xE];grind
 ·rw[aq h];obtain⟨y,y1,y2⟩:=hz (i-1);refine⟨(x.den:Int)*y-x.num*z,?_,?_⟩
  ·have h1:=nk hx z1;have h2:=nk hd y1;have h3:((x.den:Int)*y).natAbs≤127*18:=by rw[sj];exact h2
   have h4:(x.num*z).natAbs≤128*18:=by rw[sj];exact h1
   omega
  ·rw[J1,iW,iW,←zO,←z2,←y2,xE,tu];grind
noncomputable def vW(u:List Rat):List (List Rat×Int)→Int
 |[]=>0
 |x::l=>if x.1=u then x.2 else vW u l
def afO{u:List Rat}(h1:u.getD (u.length-1) 0=1)(hu:cp (lx u)):∀{l:List (List Rat×Int)},(∀x∈l,x.1.getD (x.1.length-1) 0=1∧cp (lx x.1)∧1≤x.2)→l.Pairwise (λx y=>x.1≠y.1)→∃R,fK l=pk (lx u) (vW u l).toNat*R∧¬lx u∣R
 |[],_,_=>⟨1,(mul_one _).symm,hu.xb⟩
 |x::l,h,hd=>by
  obtain⟨uc,um⟩:=AP h1;have key:∀y∈x::l,lx u∣lx y.1→y.1=u:=λy hy k=>by obtain⟨yc,ym⟩:=AP (h y hy).1;exact MJ yc uc (hu.eq (h y hy).2.1 um ym k).symm
  obtain⟨d1,d2⟩:=jZ.1 hd;by_cases e:x.1=u
  ·refine⟨fK l,by rw[fK,vW,aw e,e],λk=>?_⟩;obtain⟨y,hy,h2⟩:=Vm hu k;exact d1 y hy (e.trans (key y oT h2).symm)
  ·obtain⟨R,r1,r2⟩:=afO h1 hu (λy hy=>h y oT) d2;refine⟨pk (lx x.1) x.2.toNat*R,by rw[fK,r1,vW,aq e];ac_rfl,λk=>?_⟩;rcases hu.rO k with k|k
   ·exact e (key x be (hu.pk k).2)
   ·exact r2 k
def afP{u:List Rat}:∀{l:List (List Rat×Int)},vW u l≠0→(u,vW u l)∈l
 |[],h=>absurd ae h
 |y::l,h=>by
  rw[vW]at h⊢;split at h
  ·rename_i e;rw[aw e,←e];simp
  ·rename_i e;rw[aq e];exact v8 _ (afP h)
def Vp{a u:List Rat}{fa:List (List Rat×Int)}(Ha:sa a fa)(h1:u.getD (u.length-1) 0=1)(hu:cp (lx u))(hd:lx u∣lx (dI a)):(u,vW u fa)∈fa:=by
 obtain⟨A,a1,a2⟩:=afO h1 hu Ha.ok Ha.yG;refine afP λe=>a2 ?_
 rw[←Ha.prod,a1,e]at hd;have e1:pk (lx u) ((0:Int)).toNat*A=A:=one_mul A;rwa[e1]at hd
def nh:List (List Rat×Int)→Nat
 |[]=>0
 |x::l=>x.2.toNat*(x.1.length-1)+nh l
def afQ{Q:Rx}(hQ:Q≠0):∀e,sz (pk Q e)=e*(sz Q-1)+1∧pk Q e≠0
 |0=>⟨by rw[pk,oK];omega,n6⟩
 |e+1=>by obtain⟨i1,i2⟩:=afQ hQ e;have h1:=eK i2 hQ;have h2:=eN hQ;rw[pk];refine⟨?_,oJ i2 hQ⟩;rw[fP,iZ];omega
def afR:∀{l:List (List Rat×Int)},(∀x∈l,x.1.getD (x.1.length-1) 0=1)→sz (fK l)=nh l+1∧fK l≠0
 |[],_=>⟨by rw[fK,oK,nh],n6⟩
 |x::l,h=>by
  obtain⟨i1,i2⟩:=afR (l:=l) λy hy=>h y oT
  obtain⟨c,m⟩:=AP (h x be);obtain⟨j1,j2⟩:=afQ m.ne x.2.toNat;have:=eK j2 i2;rw[dV c]at j1;rw[fK,nh];exact⟨by omega,oJ j2 i2⟩
def sa.wt{a:List Rat}{fs:List (List Rat×Int)}(H:sa a fs)(hc:dp a):nh fs+1=a.length∨a=[]:=by
 by_cases h0:a=[]
 ·exact .inr h0
 ·left;have:=(afR λx hx=>(H.ok x hx).1).1;rw[H.prod,dV (vU a),NZ hc]at this;exact this.symm
def arl{A:Rx}(h:sz A=2):∃r,X 1-K r∣A:=by
 have h0:A≠0:=λe=>by rw[e,kQ]at h;omega
 obtain⟨c,hc,hm⟩:=Tm h0;obtain⟨a,a1,a2⟩:=kC (K c*A);have hs:sz (K c*A)=2:=by have:=eK (ug hc) h0;rw[uh hc]at this;omega
 rw[←a2]at hs hm;rw[dV a1]at hs;have e:=Oi hs (Vf a1 hm);refine⟨-(a.getD 0 0),Tl hc ?_⟩;rw[←FE,Bc,←e,a2];exact dvd_refl _
def arn{q:List Rat}(hc:dp q)(h3:q.length=3)(h:∀r,jX q r 3≠0):cp (lx q):=by
 have hs:sz (lx q)=3:=by rw[dV hc,h3]
 refine⟨by omega,λA B e=>?_⟩;have h0:lx q≠0:=λe=>by rw[e,kQ]at hs;omega
 have hA:A≠0:=λk=>h0 (by rw[e,k,zero_mul])
 have hB:B≠0:=λk=>h0 (by rw[e,k,mul_zero])
 have h1:=eK hA hB;have h2:=eN hA;have h4:=eN hB;rw[←e,hs]at h1;by_cases k:sz A=2
 ·exfalso;obtain⟨r,hr⟩:=arl k;refine h r ?_;have:=(Vn q r).2 (by rw[e];exact qH hr B);rwa[h3]at this
 ·omega
def aro(x:Rat):0≤x*x:=by
 rcases Rat.le_total (a:=0) (b:=x)with h|h
 ·exact Rat.mul_nonneg h h
 ·have h1:0≤-x:=by grind
  have:=Rat.mul_nonneg h1 h1;rwa[Rat.neg_mul,Rat.mul_neg,Bc]at this
def arp(k:Rat):Rx.cp (lx [k*k+1,-(k+k),1]):=by
 refine arn (Or.inr OF) ae λr e=>?_
 have e:((0*r+1)*r+ -(k+k))*r+(k*k+1)=0:=e;have h:=aro (r-k);grind
abbrev Vq:C:= .V (.slice none 0 0)
def afS:aG Tryz.prog 72 [cS .q []] (.t [(true,[.B false,Vq,.B false,Vq]),(false,[Vq]),(false,[.I .i64 10])]):=by refine aX Tryz.func72 ae ae ae ae ae ak ?_;exact rr ae (aj (rr ae (ax ae (λ_=>rr ae (aF (bW (aL ar ae (au.refl _))))) (λh=>by cases h))))
def arq:aG Tryz.prog 24 [cS .q []] (cS .q []):=by
 refine aX Tryz.func24 ae ae ae ae ae ak ?_;refine rr ae (rb (rc ae ae afS (re ae (rr ae (aj (rr ae ?_))))));refine aK (bA (α:=Unit) (λ_=>⟨[(6,.c (.X 20000000)),(15,cS UT []),(16,cI 0),(17,cI 0)],[(20000000,.vec 46 .q [])],30,[]⟩) (λ_=>True) (λ_=>0) () ah ?_ ?_)
 ·exact s9 20000000 46 .q ⟨.inr ⟨ae,ae⟩,.inl ⟨_,ae,au.nil UT⟩,.inl (sE ae ae),.inl (sE ae ae),ah⟩ ah ae (eO.of ae)
 rintro- -;refine rr ae (aj (ax ae (λh1=>by cases h1) (λh1=>?_)));refine bp (bu (br (bq (ai ?_))));refine rb (nX 20000000 ae (afm (w:=20) ak [] ak (λx hx=>by cases hx)) ae ae (re ae ?_));exact dv (oC 20000000 ae) (rr ae (aF (aL ar ae (au.refl _))))
def ars:aG Tryz.prog 22 [cS .q []] (cB false):=by refine aX Tryz.func22 ae ae ae ae ae ak ?_;refine rr ae (rb (rc ae ae afS (re ae ?_)));exact rb (rg 14 ae ae (λh=>by cases h) (λ_=>rg 19 ae ae (λh=>by cases h) (λ_=>re ae (aF (aL ar ae (au.refl _))))))
def FG:∀l m,nh (l++m)=nh l+nh m
 |[],m=>by rw[wh,nh,eR]
 |x::l,m=>by rw[mQ,nh,nh,FG l m];omega
def yV:∀{l:List (List Rat×Int)},(∀x∈l,2≤x.1.length∧1≤x.2)→l.length≤nh l
 |[],_=>bF _
 |x::l,h=>by
  have ih:=yV (l:=l) λy hy=>h y oT
  obtain⟨h1,h2⟩:=h x be;have:=nk (show 1≤x.2.toNat by omega) (show 1≤x.1.length-1 by omega);rw[nh,fk];omega
def sa.big{a:List Rat}{fs:List (List Rat×Int)}(H:sa a fs){x:List Rat×Int}(hx:x∈fs):2≤x.1.length∧1≤x.2:=by obtain⟨h1,h2,h3⟩:=H.ok x hx;have h4:=h2.1;rw[dV (AP h1).1]at h4;exact⟨h4,h3⟩
def afU{p:List Rat}(h1:p.getD (p.length-1) 0=1):lx (dI p)=lx p:=by
 obtain⟨c,m⟩:=AP h1;have h0:p≠[]:=λe=>by rw[e]at h1;exact absurd h1 ak
 exact(NY c h0).eq m ((Jm p).2 c) (Jm p).1
def art{p:List Rat}{fs:List (List Rat×Int)}(H:sa p fs)(h1:p.getD (p.length-1) 0=1)(hi:cp (lx p)):fs=[(p,1)]:=by
 have hp:=Vp H h1 hi (by rw[afU h1];exact dvd_refl _);have hw:nh fs+1=p.length:=(H.wt (AP h1).1).resolve_right λe=>by rw[e]at h1;exact absurd h1 ak
 have hb:=λx(hx:x∈fs)=>H.big hx
 generalize vW p fs=n at hp;obtain⟨s,t,rfl⟩:=Dc hp;obtain⟨b1,b2⟩:=hb (p,n) be;have w1:=yV (l:=s) λx hx=>hb x lC
 have w2:=yV (l:=t) λx hx=>hb x lC
 rw[FG,nh]at hw;simp only at b1 b2 hw;have h3:1*(p.length-1)≤n.toNat*(p.length-1):=dY _ af;have hs:s=[]:=ik af;have ht:t=[]:=ik af;have hn:n=1:=by
  by_cases e:n=1
  ·exact e
  ·have h4:2*(p.length-1)≤n.toNat*(p.length-1):=dY _ af;omega
 rw[hs,ht,hn];rfl
def aru{p:List Rat}(h:lA p)(h1:p.getD (p.length-1) 0=1)(hi:cp (lx p)):aG Tryz.prog 22 [cS .q p] (cB true):=by obtain⟨fs,f1,f2,f3,f4⟩:=Vh h;rw[art f1 h1 hi]at f4;refine aX Tryz.func22 ae ae ae ae ae ak ?_;refine rr ae (rb (rc ae ae f4 (re ae ?_)));exact rb (rg 14 ae ae (λ_=>rg 19 ae ae (λ_=>re ae (aF (aL ar ae (au.refl _)))) (λh=>by cases h)) (λh=>by cases h))
def arv{a:List Rat}(h:lA a):∃fs,sa a fs∧fs.length≤8∧(∀x∈fs,xr 20 x)∧aG Tryz.prog 18 [cS .q a] (.a (av .q (a.getD (a.length-1) 0)++[.S UT fs,.I .i64 0])):=by obtain⟨fs,f1,f2,f3,f4⟩:=Vh h;refine⟨fs,f1,f2,f3,?_⟩;refine aX Tryz.func18 ae ae ae ae ae ak ?_;exact rr ae (rb (rc ae ae f4 (re ae (rr ae (aF (aL ar ae (au.of_eq ae)))))))
end Go.El
namespace Go.El
open Go Go.Proofs
def arw{k:Nat}{a b:Rat}(h:a<b):dn (a.num*(b.den:Int)) (b.num*(a.den:Int))<0:=by have:=Rat.lt_iff a b|>.1 h;rw[dn,aw this];decide
def arx{p M:Int}(h1:1≤M)(h2:M≤127)(hp: -128≤p∧p≤127):((p:Rat)/(M:Rat)).num.natAbs≤128∧((p:Rat)/(M:Rat)).den≤127:=by
 rw[←OR];obtain⟨d1,d2⟩:=MF (n:=p) (d:=M) af;constructor
 ·by_cases e:p=0
  ·subst e;rw[Rat.zero_divInt];decide
  ·have:=rf af (F3.2 d1);omega
 ·have h3:=Int.le_of_dvd af d2;omega
def Vr{R:List Rat}{i:Nat}(h:i<R.length)(x:Rat):x∈R.take (i+1)↔x∈R.take i∨R.getD i 0=x:=by
 have e:R.take (i+1)=R.take i++[R.getD i 0]:=by rw[wc,aY,ct h];rfl
 rw[e,bX,jw];exact⟨λh=>h.elim .inl λe=> .inr e.symm,λh=>h.elim .inl λe=> .inr e.symm⟩
def Vs{f:List Rat}(hc:Rx.dp f)(hf:f≠[]→lA f):∃R,aG Tryz.prog 24 [cS .q f] (cS .q R)∧(f≠[]→∀r,r∈R↔Rx.X 1-Rx.K r∣Rx.lx f)∧(f=[]→R=[])∧(∀t,t+1<R.length→R.getD t 0<R.getD (t+1) 0)∧R.length≤8∧(∀r∈R,QS 20 r)∧R.Nodup:=by
 by_cases h0:f=[]
 ·subst h0;exact⟨[],arq,λh=>absurd ae h,λ_=>rfl,λt ht=>absurd ht (A3 _),bK _,λr hr=>(by cases hr),List.Pairwise.nil⟩
 ·obtain⟨fs,f1,f2,f3,f4⟩:=aqY (hf h0);have hp:=Vl fs;have hl:=Oc fs;have hle:=hp.length_eq;refine⟨rL fs,f4,λ_ r=>ard hc h0 f1 r,λe=>absurd e h0,λt ht=>are f1 ht,by omega,λr hr=>?_,afK f1⟩;obtain⟨x,h1,_,rfl⟩:=Jw (hp.mem_iff.1 hr);exact((f3 x h1).q 0).neg
set_option maxRecDepth 100000 in
set_option maxHeartbeats 16000000 in
def ary(arz:aG Tryz.prog 9 [] (cB true))(l:List Int)(hl:∀x∈l,-128≤x∧x≤127)(p q:Int)(hp: -128≤p∧p≤127)(hq: -128≤q∧q≤127):aG Tryz.prog 7 [cS I8 l,.c (.I .i8 p),.c (.I .i8 q)] (cB true):=by
 refine aX Tryz.func7 ae ae ae ae ae ak ?_;have pu:=Yw l 6 ak hl;refine rr ae (rb (rc ae ae arz (re ae (aj (rr ae (ax ae (λh=>by cases h) (λ_=>aC (ai ?_))))))));refine rb (rc ae ae pu (re ae ?_));have hfc:=Vo l 6;have nW:(ib l 6).length≤7:=(Jz l 6).1;have Vt:=arj l 6;have hFa:ib l 6≠[]→lA (ib l 6):=λh=>Oj ak h
 obtain⟨M,hM⟩:∃M:Int,M=if(1:Int)>q then 1 else q:=⟨_,ae⟩
 have I3:1≤M∧M≤127:=by rw[hM];split<;>omega
 obtain⟨x1,x2⟩:=arx I3.1 I3.2 hp;have arC:ib l 6≠[]→_:=λh=>ark (l:=l) (most:=6) ak h x1 x2
 obtain⟨R,r1,r2,r3,r4,r5,r6,r7⟩:=Vs hfc hFa;generalize ib l 6=f at*;have AI:QS 1 (p:Rat):=⟨aU.one (by show p.natAbs<_;omega),aU.one (a:=1) ak⟩;have hMq:QS 1 (M:Rat):=⟨aU.one (by show M.natAbs<_;omega),aU.one (a:=1) ak⟩;have kg:=aq2 (k:=1) (p:Rat) (M:Rat) (by show M≠0;omega) AI hMq ak;refine rb (rc ae ae r1 (re ae ?_));have hW:=yg M af af;have eW:(AV.c (num .i64 (if true=true then if(1:Int)>q then 1 else q else if(1:Int)<q then 1 else q)).1)=cI M:=by rw[aw ae,←hM];rfl
 rw[←eW]at hW;refine rb (rc ae ae (yg p af af) (rc ae ae hW (rc ae ae kg (re ae ?_))));have hxq:QS 1 ((p:Rat)/(M:Rat)):=⟨aU.one af,aU.one af⟩;generalize (p:Rat)/(M:Rat)=x at*;have jz:f≠[]→∀r,r∈R↔jX f r f.length=0:=λh r=>(r2 h r).trans (Vn f r).symm
 refine rr ae (aj (rr ae ?_));refine aK (bA (α:=Nat) (λi=>⟨[(7,cB true),(8,cS .q f),(9,cS .q R),(10,.c (.P 5011000 0)),(12,cB (decide (x∈R.take i))),(13,cI i)],[(5011000,.box 46 0 (av .q x))],10,[]⟩) (λi=>i≤R.length) (λi=>R.length-i) 0 (bK _) (wk ⟨sR ae,sR ae,sR ae,sR ae,sE ae ae,sE ae ae,ah⟩ ⟨bE ae ae,ah⟩) ?_);intro i hi;refine aj (rr ae (ax ae (λh1=>?_) (λh1=>?_)))
 ·have h1:i<R.length:=by have h1:(i:Int)<(R.length:Int):=bc h1;omega
  have ig:f≠[]:=λe=>by rw[r3 e]at h1;exact absurd h1 (A3 _)
  have ei:((i:Int)).toNat=i:=bw i;have hRm:R.getD i 0∈R:=JJ;have Ol:=r6 _ hRm;have dR:jX f (R.getD i 0) f.length=0:=(jz ig _).1 hRm;have j9:=aq3 (k:=20) (R.getD ((i:Int)).toNat 0) (by rw[ei];exact Ol) ak;have hvE:=afH (k:=20) ak ak f (R.getD ((i:Int)).toNat 0) af (λi=>(Vt i).le ak) (by rw[ei];exact Ol);have hvS:=Ek (jX f (R.getD ((i:Int)).toNat 0) f.length);have arG:jX f (R.getD ((i:Int)).toNat 0) f.length=0:=by rw[ei];exact dR
  refine aC (ai (aj (aK (wO ⟨[(7,cB true),(8,cS .q f),(9,cS .q R),(10,.c (.P 5011000 0)),(12,cB (decide (x∈R.take i))),(13,cI i)],[(5011000,.box 46 0 (av .q x))],12,[]⟩ ?_ (λic=>?_)))))
  ·have ve:=afu (k:=20) (R.getD ((i:Int)).toNat 0) x (by rw[ei];exact Ol) ak;refine cG (rg 74 ae ae (λh2=>?_) (λh2=>?_))
   ·refine re ae (a7 (ai (rt ae (hp:=aR) (a8 (i+1) h1 (by show R.length-(i+1)<R.length-i;omega) (wk ⟨sR ae,sR ae,sR ae,sR ae,sE ae ?_,sR ae,ah⟩ ⟨bR ae,ah⟩)))));refine az cB ?_;have h2:decide (x∈R.take i)=true:=h2;exact(ov ((Vr h1 x).2 (.inl (bc h2)))).symm
   ·refine ia ae ae ae ae ae ve (re ae (a7 (ai (rt ae (hp:=aR) (a8 (i+1) h1 (by show R.length-(i+1)<R.length-i;omega) (wk ⟨sR ae,sR ae,sR ae,sR ae,sE ae ?_,sR ae,ah⟩ ⟨bR ae,ah⟩)))))) (hp:=aR);refine az cB ?_;have h2:decide (x∈R.take i)=false:=h2;rw[ei];by_cases e:R.getD i 0=x
    ·rw[ov e,ov ((Vr h1 x).2 (.inr e))];rfl
    ·rw[kq e,kq (λh3=>((Vr h1 x).1 h3).elim (bC h2) e)];rfl
  refine rb ?_;refine rc ae ae j9 ?_ (hp:=aR);refine rg 46 ae ae (λh=>by cases h) (λ_=>?_);refine ia ae ae ae ae ae hvE ?_ (hp:=aR);refine ia ae ae ae ae ae hvS ?_;rw[arG];refine rg 56 ae ae (λh=>absurd h ak) (λ_=>?_);refine rg 59 ae ae (λh3=>?_) (λh3=>?_)
  ·have h3:0<i:=by have h3:(i:Int)>0:=bc h3;omega
   have Hz:((i:Int)-1).toNat=i-1:=af;have arH:R.getD (i-1) 0∈R:=by rw[aY,ct af];exact mO _
   have bh:=r4 (i-1) af;rw[show i-1+1=i by omega]at bh;have CP:=aq1 (k:=20) (R.getD ((i:Int)-1).toNat 0) (R.getD ((i:Int)).toNat 0) (by rw[Hz];exact r6 _ arH) (by rw[ei];exact Ol) ak;have vz:=arw (k:=20) bh;refine ia ae ae ae ae ae CP (re ae (ax ae (λh4=>?_) (λ_=>aC (my ic ck)))) (hp:=aR);exfalso;rw[ei,Hz]at h4;have h4:decide (dn ((R.getD (i-1) 0).num*((R.getD i 0).den:Int)) ((R.getD i 0).num*((R.getD (i-1) 0).den:Int))≥0)=true:=h4;have:=bc h4;omega
  ·refine re ae (ax ae (λh4=>?_) (λ_=>aC (my ic ck)));exact absurd h4 ak
 ·have h1:i=R.length:=by have h1:¬(i:Int)<(R.length:Int):=bC h1;omega
  subst h1;rw[iV];refine bp (bu (br (bq (ai ?_))));refine aj (rr ae (ax ae (λh2=>?_) (λh2=>?_)))
  ·have h2:f=[]:=by have h2:((f.length:Int)==0)=true:=h2;have:=eq_of_beq h2;exact ik af
   have hR:=r3 h2;subst hR;exact rb (rg 88 ae ae (λ_=>re ae (aF (bW (aL ar ae (au.of_eq ae))))) (λh=>by cases h))
  ·have h2:f≠[]:=λe=>by have h2:((f.length:Int)==0)=false:=h2;rw[e]at h2;cases h2
   obtain⟨hg,jr⟩:=arC h2;have TO:=afC f [-x,1] f.length;obtain⟨R',s1,s2,s3,s4,s5,s6,s7⟩:=Vs TO (λ_=>hg);have hlq:∀i,QS 1 (([-x,1]:List Rat).getD i 0):=λi=>by
    match i with
    |0=>exact hxq.neg
    |1=>exact⟨aU.one (a:=1) ak,aU.one (a:=1) ak⟩
    |i+2=>exact QS.zero ak
   have sT:=ara (k:=1) ak f [-x,1] af (by show 2≤100;decide) Vt hlq;have hE:=afH (k:=1) ak ak f x af Vt hxq;have hS:=Ek (jX f x f.length);have rV:=s2 (hg.ne);generalize jg f [-x,1] f.length=g at*;have JA:∀r,r∈R'↔r∈R∨r=x:=λr=>by
    rw[rV r,jr,r2 h2 r];constructor
    ·intro hd;rcases(Jy r).rO hd with e|e
     ·exact .inl e
     ·right;have e2:=(Jy r).eq (Jy x) (Oh r) (Oh x) e;have e3:=az (λA:Rx=>A 0) e2;have e4:(Rx.X 1-Rx.K r) 0= -r:=by rw[Rx.yn,Rx.Cq,Rx.qQ];simp;rw[OQ,Gf]
      have e5:(Rx.X 1-Rx.K x) 0= -x:=by rw[Rx.yn,Rx.Cq,Rx.qQ];simp;rw[OQ,Gf]
      have e6: -r= -x:=by rw[←e4,←e5];exact e3
      rw[←Bc r,e6,Bc]
    ·intro h;rcases h with e|e
     ·exact Rx.qH e _
     ·subst e;exact Rx.dvd_mul_left _ _
   have s8:=yg 1 ak ak;have e1:((1:Int):Rat)=1:=rfl;rw[e1]at s8;by_cases hx:x∈R
   ·have dR:=(jz h2 x).1 hx;rw[dR]at hE hS;have hle:R'.length=R.length:=Nat.le_antisymm (FF s7 λr hr=>by
     rcases(JA r).1 hr with e|e
     ·exact e
     ·rw[e];exact hx) (FF r7 λr hr=>(JA r).2 (.inl hr))
    rw[ov hx];refine aC (ai (rb (rc ae ae (afq x) (rc ae ae s8 (rl .q [-x,1] ae ae (re ae ?_))))));refine rb (rc ae ae sT (rc ae ae s1 (re ae ?_)));refine rb (rc ae ae hE (rc ae ae hS ?_));refine rg 106 ae ae (λ_=>?_) (λh=>absurd h ak);refine rg 115 ae ae (λ_=>?_) (λh=>?_)
    ·refine rg 123 ae ae (λh5=>re ae (aF (aL ar ae (au.of_eq (az cB ?_))))) (λh=>?_)
     ·rfl
     ·exfalso;have h:decide ((R'.length:Int)≤(R.length:Int)+1)=false:=h;have:=bC h;omega
    ·exfalso;have h:(((R'.length:Int)==(R.length:Int))==true)=false:=h;rw[hle]at h;simp at h
   ·have dR:jX f x f.length≠0:=λe=>hx ((jz h2 x).2 e)
    have hz:cH (jX f x f.length).num≠0:=λe=>dR (CH (uu.1 e))
    have hle:R'.length=R.length+1:=Nat.le_antisymm (FF (m:=x::R) s7 λr hr=>by
     rcases(JA r).1 hr with e|e
     ·simp[e]
     ·simp[e]) (FF (l:=x::R) (zc.2 ⟨hx,r7⟩) λr hr=>by
     rcases dx.1 hr with e|e
     ·exact(JA r).2 (.inr e)
     ·exact(JA r).2 (.inl e))
    rw[kq hx];generalize cH (jX f x f.length).num=z at*;refine aC (ai (rb (rc ae ae (afq x) (rc ae ae s8 (rl .q [-x,1] ae ae (re ae ?_))))));refine rb (rc ae ae sT (rc ae ae s1 (re ae ?_)));refine rb (rc ae ae hE (rc ae ae hS ?_));refine rg 106 ae ae (λ_=>?_) (λh=>?_)
    ·refine rg 115 ae ae (λ_=>?_) (λh=>?_)
     ·refine rg 123 ae ae (λh5=>re ae (aF (aL ar ae (au.of_eq (az cB ?_))))) (λh=>?_)
      ·rfl
      ·exfalso;have h:decide ((R'.length:Int)≤(R.length:Int)+1)=false:=h;have:=bC h;omega
     ·exfalso;have h:(((R'.length:Int)==(R.length:Int))==false)=false:=h;have h3:((R'.length:Int)==(R.length:Int))=false:=beq_false_of_ne af;rw[h3]at h;cases h
    ·exfalso;have h:(false==(z==0))=false:=h;have h3:(z==0)=false:=beq_false_of_ne hz;rw[h3]at h;cases h
end Go.El
namespace Go.El
open Go Go.Proofs Fx
noncomputable abbrev CY{p:Nat}(H:bI p)(a:List Int):List (List Int×Int):=
 qP H (lS p (a6 (md p a))).length (lS p (a6 (md p a))) 1 []
noncomputable abbrev Om{p:Nat}(H:bI p)(a:List Int):List (List Int×Int):=lZ (CY H a) ((CY H a).length-1)
def arJ{p:Nat}(H:bI p)(jI:p≤2147483647)(a:List Int)(la:a.length≤10)(ha:∀i,0≤a.getD i 0)(h0:a6 (md p a)≠[])(hm:Mon p (lS p (a6 (md p a))))(Hu:(lS p (a6 (md p a))).length≤10)(G8:(CY H a).length≤12)(hxm:∀x∈CY H a,x.1.length≤1000):aG Tryz.prog 12 [cS aM a,cU p] (.t [(false,[.S MT (Om H a)]),(false,[.I .i64 0])]):=by
 refine aX Tryz.func12 ae ae ae ae ae ak ?_;have iJ:=H.hp.1;have DR:=H.le;have jk:(0:Int)<(p:Int):=af;have hc:bV p (a6 (md p a)):=nC jk (BY jk a);have hl:(a6 (md p a)).length≤a.length:=by have:=vp (md p a);rwa[yo]at this
 refine rr ae (aj (rb (rc ae ae (RH p H.hp jI) (re ae (ax ae (λh=>by cases h) (λ_=>aC (ai ?_)))))));refine rb (rc ae ae (RO a p af af af ha) (re ae ?_));refine aj (rr ae (ax ae (λh=>?_) (λ_=>aC (ai ?_))))
 ·have h:((a6 (md p a)).length:Int)=0:=eq_of_beq h;exact absurd (ik af) h0
 refine rb (rc ae ae (Za p H.hp af _ af hc) (wK ae ae (alE H _ hm af) (re ae ?_)));refine rb (nX 4002000 ae (alU _ G8 hxm) ae ae (re ae ?_));exact fS 4002000 ae ae ae (rr ae (aF (aL ar ae (au.refl _))))
end Go.El
