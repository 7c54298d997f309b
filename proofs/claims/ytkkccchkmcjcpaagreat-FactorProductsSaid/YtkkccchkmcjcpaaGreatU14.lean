/- Contract: irreducible. Own work; no condition. -/
import Derived.Test.YtkkccchkmcjcpaaGreatU13
import Derived.Test.YtkkccchkmcjcpaaGreatU9
import Derived.Test.YtkkccchkmcjcpaaGreatU11
import Derived.Test.YtkkccchkmcjcpaaGreatU5
import Derived.Test.YtkkccchkmcjcpaaGreatU10
set_option linter.defProp false
set_option linter.unusedVariables false
set_option linter.unusedSimpArgs false
set_option linter.unnecessarySimpa false
namespace Go.El
open Go Go.Proofs
def VK(a:List Rat)(h:∀i,QS 20 (a.getD i 0)):∀i,aW (20*i+1) ((j8 a i:Nat):Int)
 |0=>aW.one (a:=1) ak
 |i+1=>by have h1:=VK a h i;have h2:=(h i).d;have h3:j8 a (i+1)≤j8 a i*(a.getD i 0).den:=lJ _ (DI _ _);have h4:=h1.mul h2;rw[←gi]at h4;unfold aW at*;rw[pt]at*;rw[show 20*(i+1)+1=20*i+1+20 by omega];omega
def pj{α:Type}(f:Nat→α)(d:α)(n j:Nat):List α:=(List.range n).map λk=>if n≤k+j then f k else d
def afD{α:Type}(f:Nat→α)(d:α)(n j:Nat):(pj f d n j).length=n:=by simp[pj]
def afE{α:Type}(f:Nat→α)(d:α)(n:Nat):List.replicate n d=pj f d n 0:=by
 refine nV (by simp[pj]) λi h1 h2=>?_
 simp[pj]at h2⊢;omega
def afF{α:Type}(f:Nat→α)(d:α){n j:Nat}(h:j<n):(pj f d n j).set (n-1-j) (f (n-1-j))=pj f d n (j+1):=by
 refine nV (by simp[pj]) λi h1 h2=>?_
 rw[List.getElem_set];simp only[pj,sH,Bj];simp only[pj,dM,Bk]at h2;by_cases e:n-1-j=i
 ·subst e;rw[aw ae,aw af]
 ·rw[aq e];by_cases h3:n≤i+j
  ·rw[aw h3,aw af]
  ·rw[aq h3,aq af]
def afG{α:Type}(f:Nat→α)(d:α)(n:Nat):pj f d n n=(List.range n).map f:=by
 refine nV (by simp[pj]) λi h1 h2=>?_
 simp[pj]
def VL{g:List Int}:∀{l:List (List Int)},g∈l→Rx.zx g∣Rx.sx l
 |f::l,h=>by
  rw[Rx.sx];rcases dC.1 h with rfl|h
  ·exact Rx.dvd_mul_right _ _
  ·exact Rx.fl (VL h) _
def afH:∀{l:List (List Int)},(∀g∈l,Rx.cj (Rx.zx g))→Rx.sx l≠0∧l.length+1≤Rx.sz (Rx.sx l)
 |[],_=>⟨Rx.oh,by rw[Rx.sx,Rx.oY];exact bD _⟩
 |g::l,h=>by
  obtain⟨i1,i2⟩:=afH (l:=l) λx hx=>h x kZ
  have hg:=h g be;have:=Rx.eH hg.ne i1;have:=hg.1;rw[Rx.sx];exact⟨Rx.oX hg.ne i1,by rw[fv];omega⟩
def afI{a:List Int}(h:oD a):(uM a).length≤8∧∀g∈uM a,bT g∧g.length≤9∧∀i,aW 8 (g.getD i 0):=by
 obtain⟨h1,h2⟩:=ae1 h;have hs:=Rx.mT h.am.can;have l9:=h.l9;refine⟨?_,λg hg=>⟨(h1 g hg).1,?_,λi=>?_⟩⟩
 ·have:=(afH λg hg=>(h1 g hg).2).2;rw[h2]at this;omega
 ·have hd:=VL hg;rw[h2]at hd;have:=Rx.j3 hd (Rx.ou h.am).ne;rw[Rx.mT (h1 g hg).1.can]at this;omega
 ·have hd:=VL hg;rw[h2]at hd;have h3:=aeU h.am (h1 g hg).1 hd i;have h4:=h.bB;unfold aW at*;rw[pt]at h4;omega
set_option maxRecDepth 100000 in
set_option maxHeartbeats 16000000 in
def arl{a:List Rat}(h:qc a)(hq:∀i,QS 20 (a.getD i 0)):aG Tryz.prog 135 [cS .q a] (cS (.sl .q) (wi a)):=by
 refine aX Tryz.func135 ae ae ae ae ae ak ?_;have l2:=h.l2;have l9:=h.l9;refine rr ae (rb (rc ae ae (oT 1 ak ak) (re ae (aj (rr ae ?_)))));refine aH (bA (α:=Nat) (λi=>⟨[(0,cS .q a),(3,.c (.P 1001000 0)),(20,cS .q a),(21,cI a.length),(22,cI i)],[(1001000,.box 44 0 (av .z ((j8 a i:Nat):Int)))],3,[]⟩) (λi=>i≤a.length) (λi=>a.length-i) 0 (bK _) (wk ⟨sR ae,sR ae,sR ae,sR ae,sR ae,ah⟩ ⟨bE ae ae,ah⟩) ?_);intro i hi;refine rr ae (aj (ax ae (λh1=>?_) (λh1=>?_)))
 ·have h1:i<a.length:=by have h1:(i:Int)<(a.length:Int):=a9 h1;omega
  have ei:((i:Int)).toNat=i:=bu i;have hB:=VK a hq i;have hd:=(hq i).d;have Ji:0<(a.getD i 0).den:=(a.getD i 0).den_pos;have hg:=abY ((j8 a i:Nat):Int) ((a.getD ((i:Int)).toNat 0).den:Int) (hB.sm af) ((hq _).d.sm af);rw[ei]at hg;have nD:Int.gcd ((j8 a i:Nat):Int) ((a.getD i 0).den:Int)=Nat.gcd (j8 a i) (a.getD i 0).den:=rfl;rw[nD]at hg;have hgp:0<Nat.gcd (j8 a i) (a.getD i 0).den:=Nat.gcd_pos_of_pos_right _ Ji;have qL:=xe ((a.getD i 0).den:Int) ((Nat.gcd (j8 a i) (a.getD i 0).den:Nat):Int) af (hd.sm af) (by
   have h3:Nat.gcd (j8 a i) (a.getD i 0).den≤(a.getD i 0).den:=rE Ji (WT _ _);have h4:aW 20 ((Nat.gcd (j8 a i) (a.getD i 0).den:Nat):Int):=by unfold aW at*;rw[pt]at*;omega
   exact h4.sm af)
  have Aj:=uu ((j8 a i:Nat):Int) (((a.getD i 0).den:Int)/((Nat.gcd (j8 a i) (a.getD i 0).den:Nat):Int)) (hB.sm af) ((hd.ediv af af).sm af);have hen:((j8 a i:Nat):Int)*(((a.getD i 0).den:Int)/((Nat.gcd (j8 a i) (a.getD i 0).den:Nat):Int))=((j8 a (i+1):Nat):Int):=by rw[j8,gi,Bl]
  rw[hen]at Aj;refine aC (ai (aj (aH (rr ae ?_ (hp:=aN)))));rw[ei];refine rb (rc ae ae hg (rc ae ae qL (re ae ?_)));refine cK (rc ae ae Aj (re ae (a6 (ai (rt ae (hp:=aN) (a8 (i+1) h1 oF (wk ⟨sR ae,sR ae,sR ae,sR ae,sR ae,ah⟩ ⟨bE ae ae,ah⟩)))))))
 ·have h1:i=a.length:=by have h1:¬(i:Int)<(a.length:Int):=bC h1;omega
  subst h1;refine bh (bt (bq (bp (ai ?_))));have hB:=VK a hq a.length;have VM:aW 181 ((ef a:Nat):Int):=hB.le af;have BE:0<ef a:=OP a _;have aV:j8 a a.length=ef a:=rfl;rw[aV];clear hB aV hi;generalize hn:a.length-1=n;have Ar:∀k,k≤10→aW 2000 (((ef a:Nat):Int)^k):=λk hk=>(VM.pow k).le (by have:=lJ 181 hk;omega)
  obtain⟨F,hF⟩:∃F:Nat→Int,F=λk=>(a.getD k 0).num*((ef a:Nat):Int)^(a.length-1-k)/((a.getD k 0).den:Int):=⟨_,ae⟩
  have nz:pj F 0 a.length a.length=p9 a:=by rw[afG,hF];rfl
  refine rr ae (rb (rm .z a.length ae ae ae ae ae ae B0 ?_ ?_ ?_ (re ae ?_)))
  ·show(a.length:Int)-1+1=(a.length:Int);omega
  ·show a.length*32≤_;omega
  ·show a.length*2≤_;omega
  refine rb (rc ae ae (oT 1 ak ak) (re ae (aj (rr ae ?_))));refine aH (bA (α:=Nat) (λj=>⟨[(0,cS .q a),(3,.c (.P 1001000 0)),(10,.c (.X 5002000)),(11,.c (.P 6001000 0)),(12,cI ((n:Int)-j))],[(1001000,.box 44 0 (av .z ((ef a:Nat):Int))),(5002000,.vec 44 .z (pj F 0 a.length j)),(6001000,.box 44 0 (av .z (((ef a:Nat):Int)^j)))],8,[]⟩) (λj=>j≤a.length) (λj=>a.length-j) 0 (bK _) (wk ⟨sR ae,sR ae,sR ae,sR ae,sE ae ?_,ah⟩ ⟨bR ae,bE ae ?_,bE ae ae,ah⟩) ?_)
  ·exact ay cI af
  ·rw[afE]
  intro j hj;refine aj (rr ae (ax ae (λh1=>?_) (λh1=>?_)))
  ·have h1:j<a.length:=by have h1:(n:Int)-(j:Int)≥0:=a9 h1;omega
   have ei:((n:Int)-(j:Int)).toNat=a.length-1-j:=af;have ej:a.length-1-(a.length-1-j)=j:=af;have AY:=Ar j af;have yX:=hq ((n:Int)-(j:Int)).toNat;have Aj:=uu (a.getD ((n:Int)-(j:Int)).toNat 0).num (((ef a:Nat):Int)^j) (yX.n.sm af) (AY.sm af);have Ji:0<(a.getD ((n:Int)-(j:Int)).toNat 0).den:=(a.getD ((n:Int)-(j:Int)).toNat 0).den_pos;have qL:=xe ((a.getD ((n:Int)-(j:Int)).toNat 0).num*((ef a:Nat):Int)^j) ((a.getD ((n:Int)-(j:Int)).toNat 0).den:Int) af ((yX.n.mul AY).sm af) (yX.d.sm af);have VN:F ((n:Int)-(j:Int)).toNat=(a.getD ((n:Int)-(j:Int)).toNat 0).num*((ef a:Nat):Int)^j/((a.getD ((n:Int)-(j:Int)).toNat 0).den:Int):=by rw[hF];show _*_^(a.length-1-((n:Int)-(j:Int)).toNat)/_=_;rw[show a.length-1-((n:Int)-(j:Int)).toNat=j by omega]
   rw[←VN]at qL;have mJ:=uu (((ef a:Nat):Int)^j) ((ef a:Nat):Int) (AY.sm af) (VM.sm af);rw[←fU]at mJ;have lS:=afD F 0 a.length j;refine aC (ai (aj (aH (rb ?_))));refine rc ae ae Aj ?_ (hp:=aN);refine rc ae ae qL ?_ (hp:=aN);refine lV (T:= .z) (F ((n:Int)-(j:Int)).toNat) ae ae ae ae ae ?_ (re ae ?_) (hp:=?_)
   ·rw[lS];omega
   ·refine cK (rc ae ae mJ (re ae (a6 (ai (rt ae (a8 (j+1) h1 (by show a.length-(j+1)<a.length-j;omega) (wk ⟨sR ae,sR ae,sR ae,sR ae,sE ae ?_,ah⟩ ⟨bR ae,bE ae ?_,bE ae ae,ah⟩)))))))
    ·exact ay cI af
    ·rw[ei,afF F 0 h1]
   ·simp only[Pr.an,Pr.h,num,aA,true_and,and_true];rw[lS];omega
  ·have h1:j=a.length:=by have h1:¬(n:Int)-(j:Int)≥0:=bC h1;omega
   subst h1;refine bh (bt (bq (bp (ai ?_))));rw[nz];have hmf:=arj h.mf;obtain⟨hg8,qM⟩:=afI h.mf;have afJ:wi a=(uM (p9 a)).map (ml (ef a)):=rfl;rw[afJ];generalize uM (p9 a)=gs at*;generalize p9 a=fa at*;clear hF nz afJ;refine dy (oP 5002000 ae) (rr ae (aj (rb (rc ae ae hmf (re ae ?_)))));refine aH (bA (α:=Nat) (λi=>⟨[(3,.c (.P 1001000 0)),(13,.c (.X 20000000)),(77,cS (.sl .z) gs),(78,cI gs.length),(79,cI i)],[(20000000,.vec 40 (.sl .q) ((gs.take i).map (ml (ef a)))),(1001000,.box 44 0 (av .z ((ef a:Nat):Int)))],30,[]⟩) (λi=>i≤gs.length) (λi=>gs.length-i) 0 (bK _) ?_ ?_)
   ·exact tv 20000000 40 (.sl .q) ⟨.inl (sR ae),.inr ⟨ae,ae⟩,.inl (sR ae),.inl (sR ae),.inl (sE ae ae),ah⟩ ⟨bR ae,ah⟩ ae (eQ.of ae)
   intro i hi;refine rr ae (aj (ax ae (λh1=>?_) (λh1=>?_)))
   ·have h1:i<gs.length:=by have h1:(i:Int)<(gs.length:Int):=a9 h1;omega
    have n8:(gs.getD ((i:Int)).toNat (ET.eR (.sl .z)))=gs.getD i []:=ay (λz=>gs.getD z []) (bu i);obtain⟨g1,g2,g3⟩:=qM (gs.getD i []) Pg;have wj:gs.take (i+1)=gs.take i++[gs.getD i []]:=by rw[uV,aU,cr h1];rfl
    refine aC (ai (aj (aH (rr ae ?_ (hp:=aN)))));rw[n8];generalize gs.getD i []=g at*;have jP:=cZ.2 g1.1;have tZ:i+1≤gs.length:=h1;have at9:((gs.take i).map (ml (ef a))).length≤8:=by rw[dM,fI];omega
    obtain⟨u,hu⟩:∃u:Nat→Rat,u=λk=>Rat.divInt (g.getD k 0) (((ef a:Nat):Int)^(g.length-1-k)):=⟨_,ae⟩
    have arp:(pj (λk=>qz (u k)) (0,0) g.length g.length)=(ml (ef a) g).map qz:=by rw[afG,hu,ml,List.map_map];rfl
    refine rb (rm ZZ g.length ae ae ae ae ae ae Ly ae ?_ ?_ (re ae ?_))
    ·show g.length*64≤_;omega
    ·show g.length*4≤_;omega
    refine rb (rc ae ae (oT 1 ak ak) (re ae (aj (rr ae ?_))));refine aH (bA (α:=Nat) (λj=>⟨[(3,.c (.P 1001000 0)),(13,.c (.X 20000000)),(77,cS (.sl .z) gs),(78,cI gs.length),(79,cI i),(15,cS .z g),(16,.c (.X 32002000)),(17,.c (.P 33001000 0)),(18,cI ((g.length:Int)-1-j))],[(20000000,.vec 40 (.sl .q) ((gs.take i).map (ml (ef a)))),(1001000,.box 44 0 (av .z ((ef a:Nat):Int))),(32002000,.vec 46 ZZ (pj (λk=>qz (u k)) (0,0) g.length j)),(33001000,.box 44 0 (av .z (((ef a:Nat):Int)^j)))],40,[]⟩) (λj=>j≤g.length) (λj=>g.length-j) 0 (bK _) (wk ⟨sR ae,sR ae,sR ae,sR ae,sR ae,sR ae,sR ae,sR ae,sE ae ?_,ah⟩ ⟨bR ae,bR ae,bE ae ?_,bE ae ae,ah⟩) ?_)
    ·exact ay cI af
    ·rw[afE]
    intro j hj;refine aj (rr ae (ax ae (λh1=>?_) (λh1=>?_)))
    ·have h1:j<g.length:=by have h1:(g.length:Int)-1-(j:Int)≥0:=a9 h1;omega
     have ei:((g.length:Int)-1-(j:Int)).toNat=g.length-1-j:=af;have AY:=Ar j af;have arq:0<((ef a:Nat):Int)^j:=sI af;have aR:=amO (g.getD ((g.length:Int)-1-(j:Int)).toNat 0) (((ef a:Nat):Int)^j) arq ((g3 _).sm af) (AY.sm af);have VN:Rat.divInt (g.getD ((g.length:Int)-1-(j:Int)).toNat 0) (((ef a:Nat):Int)^j)=u ((g.length:Int)-1-(j:Int)).toNat:=by rw[hu];show _=Rat.divInt _ (_^(g.length-1-((g.length:Int)-1-(j:Int)).toNat));rw[show g.length-1-((g.length:Int)-1-(j:Int)).toNat=j by omega]
     rw[VN]at aR;have mJ:=uu (((ef a:Nat):Int)^j) ((ef a:Nat):Int) (AY.sm af) (VM.sm af);rw[←fU]at mJ;have lS:=afD (λk=>qz (u k)) (0,0) g.length j;refine aC (ai (aj (aH (rb ?_))));refine rc ae ae aR ?_ (hp:=aN);refine lV (T:=ZZ) (qz (u ((g.length:Int)-1-(j:Int)).toNat)) ae ae ae ae ae ?_ (re ae ?_) (hp:=?_)
     ·rw[lS];omega
     ·refine cK (rc ae ae mJ (re ae (a6 (ai (rt ae (a8 (j+1) h1 (by show g.length-(j+1)<g.length-j;omega) (wk ⟨sR ae,sR ae,sR ae,sR ae,sR ae,sR ae,sR ae,sR ae,sE ae ?_,ah⟩ ⟨bR ae,bR ae,bE ae ?_,bE ae ae,ah⟩)))))))
      ·exact ay cI af
      ·rw[ei,afF (λk=>qz (u k)) (0,0) h1]
     ·simp only[Pr.an,Pr.h,num,aA,true_and,and_true];rw[lS];omega
    ·have h1:j=g.length:=by have h1:¬(g.length:Int)-1-(j:Int)≥0:=bC h1;omega
     subst h1;refine bh (bt (bq (bp (ai ?_))));rw[arp];refine dy (st':=⟨[(3,.c (.P 1001000 0)),(13,.c (.X 20000000)),(77,cS (.sl .z) gs),(78,cI gs.length),(79,cI i),(16,.c (.X 32002000))],[(20000000,.vec 40 (.sl .q) ((gs.take i).map (ml (ef a)))),(1001000,.box 44 0 (av .z ((ef a:Nat):Int))),(32002000,.vec 46 .q (ml (ef a) g))],41,[]⟩) (wk ⟨sR ae,sR ae,sR ae,sR ae,sR ae,sR ae,ah⟩ ⟨bR ae,bR ae,⟨_,ae,Jw 46 _⟩,ah⟩) (dy (oP 32002000 ae) ?_);refine cK (rl (.sl .q) [ml (ef a) g] ae ae (ra ae ae ae ae ae ae ae ae ae ?_ ?_ (re ae (a6 (ai (rt ae (hp:=aN) (a8 (i+1) tZ (by show gs.length-(i+1)<gs.length-i;omega) (Wk.trans (wk (st':=⟨[(3,.c (.P 1001000 0)),(13,.c (.X 41003000)),(77,cS (.sl .z) gs),(78,cI gs.length),(79,cI (i+1:Nat))],[(41003000,.vec 40 (.sl .q) ((gs.take (i+1)).map (ml (ef a)))),(1001000,.box 44 0 (av .z ((ef a:Nat):Int)))],43,[]⟩) ⟨sR ae,sR ae,sR ae,sR ae,sR ae,ah⟩ ⟨bE ae ?_,bR ae,ah⟩) (Wk.trans (qI 20000000 41003000 ae ae ae) bY)))))))))
     ·show(((gs.take i).map (ml (ef a))).length+1+(((gs.take i).map (ml (ef a))).length+1)/4+192)*24≤_;omega
     ·show(((gs.take i).map (ml (ef a))).length+1)*1≤_;omega
     ·rw[wj,eh];rfl
   ·have h1:i=gs.length:=by have h1:¬(i:Int)<(gs.length:Int):=bC h1;omega
    subst h1;rw[iK];exact bh (bt (bq (bp (ai (dy (oP 20000000 ae) (rr ae (aF (aL ar ae (au.refl _)))))))))
def qf(a b:List Rat):Nat→Int
 |0=>0
 |i+1=>if fQ (a.getD i 0) (b.getD i 0)≠0 then fQ (a.getD i 0) (b.getD i 0)else qf a b i
def nS(a b:List Rat):Int:=if a.length≠b.length then kX a.length b.length else qf a b a.length
def ars{w:Nat}(hw:w≤100000)(a b:List Rat)(la:a.length≤1000)(lb:b.length≤1000)(ha:∀i,QS w (a.getD i 0))(hb:∀i,QS w (b.getD i 0)):aG Tryz.prog 138 [cS .q a,cS .q b,mc 79] (cI (nS a b)):=by
 refine aX Tryz.func138 ae ae ae ae ae ak ?_;refine rr ae (aj (rr ae (ax ae (λh=>?_) (λh=>aC (ai ?_)))))
 ·have h:a.length≠b.length:=λe=>by simp[e]at h
  refine rb (rc ae ae (abJ a.length b.length) (re ae (aF (bS (aL ar ae (au.of_eq ?_))))));rw[nS,aw h]
 ·have h:a.length=b.length:=by have:(a.length:Int)=(b.length:Int):=cq;omega
  have hL:nS a b=qf a b a.length:=by rw[nS,aq (λe=>e h)]
  rw[hL];refine aj (rr ae (aH (bA (α:=Nat) (λi=>⟨[(0,cS .q a),(1,cS .q b),(2,mc 79),(7,cI ((i:Int)-1))],[],3,[]⟩) (λi=>i≤a.length∧qf a b i=qf a b a.length) (λi=>i) a.length ⟨bD _,ae⟩ bY ?_)));rintro i ⟨hi,hr⟩;refine aj (rr ae (ax ae (λh1=>?_) (λh1=>?_)))
  ·have h1:0<i:=by have h1:(i:Int)-1≥0:=a9 h1;omega
   obtain⟨i,rfl⟩:∃k,i=k+1:=⟨i-1,by omega⟩;have ei:(((i+1:Nat):Int)-1).toNat=i:=af;have hc:aG Tryz.prog 79 ([]++([aQ (a.getD (((i+1:Nat):Int)-1).toNat 0),aQ (b.getD (((i+1:Nat):Int)-1).toNat 0)]++[])) (cI (fQ (a.getD i 0) (b.getD i 0))):=by rw[ei];exact ab6 _ _ (ha _) (hb _) af
   rw[qf]at hr;refine aC (ai (aj (aH (rb (CG ae ae (.inl ⟨ae,ae,ae⟩) ae hc (re ae (rr ae (ax ae (λh2=>?_) (λh2=>?_)))) (hp:=aN))))))
   ·have h2:fQ (a.getD i 0) (b.getD i 0)≠0:=λe=>by rw[e]at h2;simp at h2
    rw[aw h2]at hr;rw[←hr];exact rr ae (aF (fq (bS (gU (fq (bS (aL ar ae (au.refl _))))))))
   ·have h2:fQ (a.getD i 0) (b.getD i 0)=0:=by generalize fQ (a.getD i 0) (b.getD i 0)=z at*;simpa using h2
    rw[aq (λe=>e h2)]at hr;refine aC (a6 (ai (rt ae (hp:=aN) (a8 i ⟨by omega,hr⟩ (by show i<i+1;omega) (wk ⟨sR ae,sR ae,sR ae,sE ae ?_,ah⟩ ah)))));exact ay cI af
  ·have h1:i=0:=by have h1:¬(i:Int)-1≥0:=bC h1;omega
   subst h1;rw[←hr];exact bh (bt (bq (bp (ai (rr ae (aF (aL ar ae (au.refl _))))))))
abbrev bQ:List Rat×Int:=([],0)
def mm(x y:List Rat×Int):Int:=nS x.1 y.1
structure wm(w:Nat)(x:List Rat×Int):Prop where
 l:x.1.length≤1000
 q:∀i,QS w (x.1.getD i 0)
def art{w:Nat}(hw:w≤100000)(x y:List Rat×Int)(hx:wm w x)(hy:wm w y):aG Tryz.prog 137 ([]++([.a (av UT x),.a (av UT y)]++[])) (cI (mm x y)):=by refine aX Tryz.func137 ae ae ae ae ae ak ?_;exact rr ae (rb (rc ae ae (ars hw x.1 y.1 hx.l hy.l hx.q hy.q) (re ae (aF (aL ar ae (au.refl _))))))
def afK(x:List Rat×Int):js (.a (List.take 2 (List.drop 0 (av UT x))))=some (av UT x):=by rcases x with⟨a,b⟩;rfl
set_option maxRecDepth 100000 in
set_option maxHeartbeats 4000000 in
def aru{w:Nat}(hw:w≤100000)(xs:List (List Rat×Int))(hl:xs.length≤12)(hx:∀x∈xs,wm w x):nf Tryz.prog 259 [.c (.X 0),cI 0,cI xs.length,mc 137] 80 UT xs (.t []) (jg bQ mm xs (xs.length-1)):=by
 refine qJ Tryz.func259 ae ae ae ae ae ak ?_;refine rr ae ?_;refine aH (bA (α:=Nat) (λi=>⟨[(0,.c (.X 0)),(1,cI 0),(2,cI xs.length),(3,mc 137),(8,cI i)],[(0,.vec 80 UT (jg bQ mm xs (i-1)))],2,[]⟩) (λi=>1≤i∧i-1≤xs.length-1) (λi=>xs.length-i) 1 ⟨bD _,bK _⟩ (wk ⟨sR ae,sR ae,sR ae,sR ae,sR ae,ah⟩ ⟨bE ae ae,ah⟩) ?_);rintro i ⟨tZ,hi⟩;refine aj (rr ae (ax ae (λh=>?_) (λh=>?_)))
 ·have h:i<xs.length:=by have h:(i:Int)<(xs.length:Int):=a9 h;omega
  have hS:jg bQ mm xs i=si bQ mm i (jg bQ mm xs (i-1)):=by obtain⟨q,rfl⟩:∃q,i=q+1:=⟨i-1,by omega⟩;rfl
  refine aC (ai (aj (aH (rr ae ?_))));refine aH (bA (α:=Nat×List (List Rat×Int)) (λx=>⟨[(0,.c (.X 0)),(1,cI 0),(2,cI xs.length),(3,mc 137),(8,cI i),(9,cI x.1)],[(0,.vec 80 UT x.2)],4,[]⟩) (λx=>si bQ mm x.1 x.2=jg bQ mm xs i∧x.1≤i∧x.2.length=xs.length∧∀y∈x.2,wm w y) (λx=>x.1) (i,jg bQ mm xs (i-1)) ⟨hS.symm,bD _,AQ xs _,λy hy=>hx y (abM af hy)⟩ bY ?_);rintro⟨j,ys⟩ ⟨fo,jC,nY,sj⟩;simp only at fo jC nY sj;refine aj (rb (rg 21 ae ae (λh1=>?_) (λh1=>?_)))
  ·have h1:0<j:=by have h1:(j:Int)>0:=a9 h1;omega
   obtain⟨j,rfl⟩:∃q,j=q+1:=⟨j-1,by omega⟩;have e1:(((j+1:Nat):Int)).toNat=j+1:=bu _;have e2:(((j+1:Nat):Int)-1).toNat=j:=af;have g1:ys.getD (j+1) bQ∈ys:=by rw[FD af];exact k6 _
   have g2:ys.getD j bQ∈ys:=by rw[FD af];exact k6 _
   have hc:aG Tryz.prog 137 ([]++([.a (av UT (ys.getD (((j+1:Nat):Int)).toNat bQ)),.a (av UT (ys.getD (((j+1:Nat):Int)-1).toNat bQ))]++[])) (cI (mm (ys.getD (j+1) bQ) (ys.getD j bQ))):=by rw[e1,e2];exact art hw _ _ (sj _ g1) (sj _ g2)
   rw[si]at fo;refine S5 ae ae ae ae ae (.inl ⟨ae,ae,ae⟩) ae hc (re ae (ax ae (λh2=>?_) (λh2=>?_))) (hp:=aN)
   ·have h2:mm (ys.getD (j+1) bQ) (ys.getD j bQ)<0:=a9 h2;rw[aw h2]at fo;refine aC (ai (aj (aH (cK (lV (ys.getD j bQ) ae ae ae ae ?_ ?_ (lV (ys.getD (j+1) bQ) ae ae ae ae ?_ ?_ (re ae ?_) (hp:=?_)) (hp:=?_))))))
    ·show js (.a (List.take 2 (List.drop 0 (av UT (ys.getD (((j+1:Nat):Int)-1).toNat bQ)))))=_;rw[e2];exact afK _
    ·show(((j+1:Nat):Int)).toNat<ys.length;omega
    ·show js (.a (List.take 2 (List.drop 0 (av UT (ys.getD (((j+1:Nat):Int)).toNat bQ)))))=_;rw[e1];exact afK _
    ·show(((j+1:Nat):Int)-1).toNat<(ys.set _ _).length;rw[gO];omega
    ·refine a6 (ai (rt ae (hp:=aN) (a8 (j,vP bQ ys j) ⟨fo,by show j≤i;omega,by rw[I0];exact nY,λy hy=>sj y ((TN af).mem_iff.1 hy)⟩ po (wk ⟨sR ae,sR ae,sR ae,sR ae,sR ae,⟨_,ae,?_⟩,ah⟩ ⟨bE ae ?_,ah⟩))))
     ·exact au.of_eq (ay (λz=>AV.c (C.I .i64 z)) (show((j+1:Nat):Int)-1=(j:Int)by omega))
     ·show aK.vec 80 UT ((ys.set (((j+1:Nat):Int)).toNat _).set (((j+1:Nat):Int)-1).toNat _)=_;rw[e1,e2];rfl
    ·show 0≤((j+1:Nat):Int)-1∧((j+1:Nat):Int)-1<((ys.set _ _).length:Int);rw[gO];omega
    ·simp only[Pr.an,Pr.h,num,aA,true_and,and_true];omega
   ·have h2:¬mm (ys.getD (j+1) bQ) (ys.getD j bQ)<0:=bC h2;rw[aq h2]at fo;subst fo;exact bh (bt (bq (bp (a6 (ai (rt ae (hp:=aN) (a8 (i+1) ⟨by omega,by omega⟩ Gs (wk ⟨sR ae,sR ae,sR ae,sR ae,sE ae ae,ah⟩ ⟨bR ae,ah⟩))))))))
  ·have h1:j=0:=by have h1:¬(j:Int)>0:=bC h1;omega
   subst h1;have fo:ys=jg bQ mm xs i:=fo;subst fo;exact re ae (ax ae (λh2=>by cases h2) (λ_=>bh (bt (bq (bp (a6 (ai (rt ae (hp:=aN) (a8 (i+1) ⟨by omega,by omega⟩ Gs (wk ⟨sR ae,sR ae,sR ae,sR ae,sE ae ae,ah⟩ ⟨bR ae,ah⟩))))))))))
 ·have h:i-1=xs.length-1:=by have h:¬(i:Int)<(xs.length:Int):=bC h;omega
  rw[h];exact bh (bt (bq (bp (Ah ar ae (au.refl _) ae))))
set_option maxRecDepth 100000 in
set_option maxHeartbeats 4000000 in
def arv{w:Nat}(hw:w≤100000)(xs:List (List Rat×Int))(hl:xs.length≤12)(hx:∀x∈xs,wm w x)(t:Int):nf Tryz.prog 206 [.c (.X 0),cI 0,cI xs.length,cI t,mc 137] 80 UT xs (.t []) (jg bQ mm xs (xs.length-1)):=by
 refine qJ Tryz.func206 ae ae ae ae ae ak ?_;refine rr ae (rr ae ?_);refine aH (bA (α:=Unit) (λ_=>⟨[(0,.c (.X 0)),(1,cI 0),(2,cI xs.length),(3,cI t),(4,mc 137)],[(0,.vec 80 UT xs)],3,[]⟩) (λ_=>True) (λ_=>0) () ah bY ?_);rintro- -;refine aH (rr ae (aj (rr ae (ax ae (λh=>?_) (λh=>?_)))))
 ·exact rb (n9 0 ae (aru hw xs hl hx) ae ae (re ae (aF (bS (fq (gU (fq (uh ar ae (au.refl _) ae))))))))
 ·have h:¬((xs.length:Int)-0≤12):=bC h;omega
def arw{w:Nat}(hw:w≤100000)(xs:List (List Rat×Int))(hl:xs.length≤12)(hx:∀x∈xs,wm w x):nf Tryz.prog 136 [.c (.X 0),mc 137] 80 UT xs (.t []) (jg bQ mm xs (xs.length-1)):=by
 refine qJ Tryz.func136 ae ae ae ae ae ak ?_;refine rr ae ?_;have hlen:aG Tryz.prog 130 [AV.c (num .u64 (xs.length:Int)).1] (cI (qN xs.length)):=by rw[show(AV.c (num .u64 (xs.length:Int)).1)=cU (xs.length:Int)from ay (λx=>AV.c (C.I .u64 x)) (wrap_u64 _ af af)];exact LU _ hl
 refine cK (rc ae ae hlen (n9 0 ae (arv hw xs hl hx _) ae ae (re ae (Ah ar ae (au.refl _) ae))))
end Go.El
namespace Go.El
open Go Go.Proofs Rx
def CD(c M:Nat)(A:Rx):Prop:=0<c∧∀i,∃z:Int,z.natAbs≤M∧((c:Nat):Rat)*A i=(z:Rat)
def CD.int{c M:Nat}{A:Rx}(h:CD c M A):eI (K ((c:Nat):Rat)*A):=eI.of λi=>by obtain⟨z,_,h2⟩:=h.2 i;exact⟨z,by rw[iE,h2]⟩
def CD.le{c M N:Nat}{A:Rx}(h:CD c M A)(k:M≤N):CD c N A:=⟨h.1,λi=>by obtain⟨z,h1,h2⟩:=h.2 i;exact⟨z,dF h1 k,h2⟩⟩
def CD.low{c d M:Nat}{A:Rx}(h:CD c M A)(hd:d∣c)(hi:eI (K ((d:Nat):Rat)*A)):CD d M A:=by
 obtain⟨j,rfl⟩:=hd;have hp:=h.1;have d0:0<d:=qj λe=>by subst e;omega
 have j0:0<j:=qj λe=>by subst e;omega
 refine⟨d0,λi=>?_⟩;obtain⟨z,h1,h2⟩:=h.2 i;have h3:=hi.at i;rw[iE]at h3;refine⟨_,?_,h3⟩;generalize nu (K ((d:Nat):Rat)*A) i=y at*;have h4:((j:Int):Rat)*(y:Rat)=(z:Rat):=by rw[←h2,←h3,Bn,uU];grind
 rw[←jz]at h4;have h5:(j:Int)*y=z:=DK.1 h4;rw[←h5,uZ]at h1;have:1*y.natAbs≤j*y.natAbs:=eJ _ j0;have e:((j:Int)).natAbs=j:=rfl;rw[e]at h1;omega
def arx{A:PS}{M:Nat}(h:∀i,(A i).natAbs≤M):∀n,Rx.vX n A≤(((n+1)*M:Nat):Int):=by
 intro n;have key:∀k,sm (λi=>((A i).natAbs:Int)) k≤((k*M:Nat):Int):=by
  intro k;induction k with
  |zero=>simp[sm]
  |succ k ih=>
   rw[sm]
   have:=h k
   rw[fV,jb]
   omega
 exact key (n+1)
def CD.div{c M:Nat}{A D:Rx}(hA:Mo A)(hD:Mo D)(hd:D∣A)(h:CD c M A):∃d,Dn D d∧d∣c∧CD d (2^(sz A-1)*(sz A*M)) D:=by
 obtain⟨E,rfl⟩:=hd;have hE:Mo E:=hA.CP hD;obtain⟨d,dD⟩:=Jg D;obtain⟨e,dE⟩:=Jg E;obtain⟨n,dA⟩:=Jg (E*D);have hn:=acw hE hD dE dD dA;have hnc:=dA.dvd c h.int;have qY:d∣c:=PG ⟨e,by rw[hn,ix]⟩ hnc;have Oo:=h.low hnc dA.int;have hs:=eH hE.ne hD.ne;have s1:=eP hE.ne;have s2:=eP hD.ne;refine⟨d,dD,qY,dD.pos,λi=>⟨nu (K ((d:Nat):Rat)*D) i,?_,by rw[←iE];exact dD.int.at i⟩⟩;have kz:∀{m:Nat}{B:Rx},0<m→sz (K ((m:Nat):Rat)*B)≤sz B:=λ_=>vT λi hi=>by rw[iE,oq hi,jA]
 have b1:nu (K ((e:Nat):Rat)*E) (sz E-1)≠0:=λe0=>by have h1:=dE.int.at (sz E-1);rw[iE,e0]at h1;have h2:E (sz E-1)=1:=hE;rw[h2,Bv]at h1;exact AS (WM.1 dE.pos) h1
 have hb:=acz (A:=nu (K ((d:Nat):Rat)*D)) (B:=nu (K ((e:Nat):Rat)*E)) (k:=sz D-1) (l:=sz E-1) (λj hj=>Uf (by have:=kz (B:=D) dD.pos;omega)) (λj hj=>Uf (by have:=kz (B:=E) dE.pos;omega)) b1 i;have e1:nu (K ((d:Nat):Rat)*D)*nu (K ((e:Nat):Rat)*E)=nu (K ((n:Nat):Rat)*(E*D)):=by rw[←Ny dD.int dE.int];congr 1;rw[hn,Bn,gw];ac_rfl
 rw[e1]at hb;have hM:∀i,(nu (K ((n:Nat):Rat)*(E*D)) i).natAbs≤M:=λi=>by obtain⟨z,h1,h2⟩:=Oo.2 i;have h3:=dA.int.at i;rw[iE,h2]at h3;rw[←DK.1 h3];exact h1
 have hnr:=arx hM (sz D-1+(sz E-1));rw[show sz D-1+(sz E-1)=sz (E*D)-1 by omega]at hb hnr;have h2p:(0:Int)≤2^(sz (E*D)-1):=Bs (sI ak);have h6:=u7 hb (jx hnr h2p);rw[show sz (E*D)-1+1=sz (E*D)by omega]at h6;have h7:(2:Int)^(sz (E*D)-1)*((sz (E*D)*M:Nat):Int)=((2^(sz (E*D)-1)*(sz (E*D)*M):Nat):Int):=by rw[gi (2^(sz (E*D)-1)),uX];rfl
 rw[h7]at h6;exact PN.1 h6
def CD.ht{c M N:Nat}{A:Rx}(h:CD c M A)(hc:c≤N)(hM:M≤N):Ht N A:=⟨(c:Int),by have:=h.1;omega,hc,λi=>by obtain⟨z,h1,h2⟩:=h.2 i;exact⟨z,dF h1 hM,h2⟩⟩
def afN{a:List Rat}{d M:Nat}(h:CD d M (lx a)):ef a∣d:=afq a (λj=>by
 obtain⟨z,_,h2⟩:=h.2 j;rw[mR]at h2;have h3:=Nz (a.getD j 0);generalize a.getD j 0=r at*;have h4:((d:Int)*r.num:Int)=z*(r.den:Int):=by refine DK.1 ?_;rw[jz,jz,←h3,←h2,uU,uU];grind
 have h5:(r.den:Int)∣r.num*(d:Int):=⟨z,by rw[fh,h4,fh]⟩;have h6:r.den∣r.num.natAbs*d:=by have:=Kv.2 h5;rwa[uZ]at this
 exact(r.reduced.symm.dvd_of_dvd_mul_left h6)) _
def arz(a:List Rat):eI (K ((ef a:Nat):Rat)*lx a):=eI.of λi=>by
 by_cases hi:i<a.length
 ·refine⟨(a.getD i 0).num*((ef a:Nat):Int)/((a.getD i 0).den:Int),?_⟩;have jF:(a.getD i 0).den∣ef a:=OO a _ i hi;rw[VG _ (Dz.2 jF),iE,mR];rfl
 ·exact⟨0,by rw[iE,mR,kY a af,jA];rfl⟩
def arA{a:List Rat}{d M e t:Nat}(h:CD d M (lx a))(iO:a.getD (a.length-1) 0=1)(hd:d≤2^e)(hM:M≤2^t)(hb:(a.length-2)*e+t≤191)(i:Nat):aW 6 ((p9 a).getD i 0):=by
 have e6:(4294967296:Nat)^6=2^192:=ak;unfold aW;rw[e6];by_cases hi:i<a.length
 ·by_cases hn:i=a.length-1
  ·subst hn;rw[OQ a hi,iO,iw,wJ];exact Nat.one_lt_two_pow ak
  ·have hl:=h.low (afN h) (arz a);obtain⟨z,h1,h2⟩:=hl.2 i;rw[mR]at h2;have hc:ef a≤2^e:=dF (rE h.1 (afN h)) hd;obtain⟨j,hj⟩:∃j,a.length-1-i=j+1:=⟨a.length-1-i-1,by omega⟩;have hz:(a.getD i 0).num*((ef a:Nat):Int)^(j+1)/((a.getD i 0).den:Int)=((ef a:Nat):Int)^j*z:=by
    refine DK.1 ?_;have jF:((a.getD i 0).den:Int)∣((ef a:Nat):Int)^(j+1):=by rw[fU];exact KF (Dz.2 (OO a _ i hi)) (Pt _ _)
    rw[VG _ jF,jz,←h2,fU,jz,uU];grind
   rw[OQ a hi,hj,hz,uZ,Int.natAbs_pow,pt];have h3:ef a^j≤2^(e*j):=by rw[zH];exact GA hc j
   have h4:e*j≤(a.length-2)*e:=by rw[ix];exact eJ _ af
   have h5:ef a^j*z.natAbs≤2^(e*j)*2^t:=my h3 (dF h1 hM);rw[←py]at h5;exact zy h5 (Nat.pow_lt_pow_right ak af)
 ·rw[dH _ (by rw[Di];omega)];exact nr ak
noncomputable def eO:List (List Rat×Int)→Rx
 |[]=>1
 |x::l=>pk (lx x.1) x.2.toNat*eO l
noncomputable def rz:List (Rx×Int)→Rx
 |[]=>1
 |x::l=>pk x.1 x.2.toNat*rz l
def VO:∀l m,eO (l++m)=eO l*eO m
 |[],m=>by rw[wH,eO,one_mul]
 |x::l,m=>by rw[mX,eO,eO,VO l m,mul_assoc]
def afO:∀l m,rz (l++m)=rz l*rz m
 |[],m=>by rw[wH,rz,one_mul]
 |x::l,m=>by rw[mX,rz,rz,afO l m,mul_assoc]
def afP:∀l:List (List Rat×Int),eO l=rz (l.map λp=>(lx p.1,p.2))
 |[]=>rfl
 |x::l=>by rw[jL,eO,rz,afP l]
def arB{l m:List (List Rat×Int)}(h:l.Perm m):eO l=eO m:=by
 induction h with
 |nil=>rfl
 |cons x _ ih=>rw[eO,eO,ih]
 |swap x y l=>rw[eO,eO,eO,eO];ac_rfl
 |trans _ _ i1 i2=>exact i1.trans i2
structure mq(a:List Rat)(fs:List (List Rat×Int)):Prop where
 ok:∀x∈fs,x.1.getD (x.1.length-1) 0=1∧cj (lx x.1)∧1≤x.2
 prod:eO fs=lx (c9 a)
 so:fs.Pairwise (λx y=>x.1≠y.1)
 adj:TO bQ mm fs (fs.length-1)
def afR(c:Nat→Nat)(j:Nat):∀L,pk (pF c L) j=pF (λm=>c m*j) L
 |[]=>yL j
 |x::L=>by rw[pF,pF,xm,afR c j L,Cv]
def VP{L:List (Rx×Nat)}(h:FL L)(c:Nat→Nat):Mo (pF c L):=vU h.mo
def afS{L:List (Rx×Nat)}(h:FL L):∀(k n:Nat),rz (ph L k n)=pF (λm=>if n≤m∧m<n+k then m else 0) L
 |0,n=>by rw[ph,rz];exact(Ua λx _=>aq af).symm
 |k+1,n=>by
  have e1:rz (if 1<sz (pF (kP n) L)then[(pF (kP n) L,(n:Int))]else[])=pk (pF (kP n) L) n:=by
   split
   ·rw[rz,rz,mul_one,bu]
   ·rename_i h1;have hm:=VP h (kP n);have:=eP hm.ne;rw[hm.unit af,yL,rz]
  rw[ph,afO,e1,afS h k (n+1),afR,←FM];refine CQ λx _=>?_
  unfold kP;by_cases e:x.2=n
  ·rw[aw e,aq af,aw af];omega
  ·rw[aq e];by_cases e2:n+1≤x.2∧x.2<n+1+k
   ·rw[aw e2,aw af];omega
   ·rw[aq e2,aq af];omega
def VQ{L:List (Rx×Nat)}:∀{k n:Nat}{y:Rx×Int},y∈ph L k n→∃m:Nat,n≤m∧y=(pF (kP m) L,(m:Int))∧1<sz (pF (kP m) L)
 |0,_,_,h=>by cases h
 |k+1,n,y,h=>by
  rw[ph]at h;rcases b6.1 h with h|h
  ·split at h
   ·rename_i h1;exact⟨n,bD _,jJ.1 h,h1⟩
   ·cases h
  ·obtain⟨m,h1,h2,h3⟩:=VQ h;exact⟨m,by omega,h2,h3⟩
def afT{L:List (Rx×Nat)}:∀(k n:Nat),(ph L k n).Pairwise (λx y=>x.2≠y.2)
 |0,_=>List.Pairwise.nil
 |k+1,n=>by
  rw[ph];refine Bh.2 ⟨?_,afT k (n+1),λx hx y hy=>?_⟩
  ·split
   ·exact Pl _ _
   ·exact List.Pairwise.nil
  ·obtain⟨m,h1,h2,_⟩:=VQ hy;split at hx
   ·rw[jJ.1 hx,h2];show(n:Int)≠(m:Int);omega
   ·cases hx
def arC{L:List (Rx×Nat)}(h:FL L)(m:Nat):Co (pF (kP m) L) (bG (pF (kP m) L)):=by
 refine AH (VP h _).ne λQ hQ d1 d2=>?_
 obtain⟨x,hx,h1,h2⟩:=AR hQ d1;have h3:kP m x.2=1:=by have:=FO m x.2;omega
 exact h.FJ (FO m) hx h3 (dvd_trans (hQ.assoc (h.ig x hx) h2) d2)
def arD{A:Rx}(h:Co A (bG A)){Q:Rx}(hQ:2≤sz Q):¬Q*Q∣A:=λ⟨w,e⟩=>by
 have h1:Q∣A:=⟨w*Q,by rw[e];ac_rfl⟩;have h2:Q∣bG A:=by rw[e,vL,vL];refine dvd_add ⟨bG w*Q,by ac_rfl⟩ ?_;rw[mul_add];exact dvd_add ⟨w*bG Q,by ac_rfl⟩ ⟨w*bG Q,by ac_rfl⟩
 obtain⟨U,V,e1⟩:=h;have h3:Q∣1:=by rw[←e1];exact dvd_add (fl h1 _) (fl h2 _)
 have:=dvd_one h3;omega
def OS{u:List Rat}:∀{l:List (List Rat)},u∈l→lx u∣zg l
 |v::l,h=>by
  rw[zg];rcases dC.1 h with rfl|h
  ·exact dvd_mul_right _ _
  ·exact fl (OS h) _
def afU:∀{l:List (List Rat)},(∀u∈l,cj (lx u))→(∀Q:Rx,2≤sz Q→¬Q*Q∣zg l)→l.Pairwise (·≠·)
 |[],_,_=>List.Pairwise.nil
 |v::l,h,hs=>by refine jW.2 ⟨λu hu e=>?_,afU (λu hu=>h u (by simp[hu])) λQ hQ hd=>hs Q hQ (fl hd _)⟩;subst e;exact hs (lx v) (h v be).1 (xr (dvd_refl _) (OS hu))
def afV(m:Int):∀l:List (List Rat),eO (l.map λu=>(u,m))=pk (zg l) m.toNat
 |[]=>(yL _).symm
 |u::l=>by rw[jL,eO,zg,xm,afV m l]
noncomputable def fL(out:List (List Rat×Int)):List (List Rat×Int):=out.flatMap λp=>(wi p.1).map λu=>(u,p.2)
def afW:∀{out:List (List Rat×Int)},(∀p∈out,qc p.1)→eO (fL out)=eO out
 |[],_=>rfl
 |p::out,h=>by rw[fL,gN,VO,afV,(J1 (h p be)).2,eO];exact ay _ (afW λq hq=>h q (by simp[hq]))
def afX:∀{l:List (List Rat×Int)},(∀x∈l,cj (lx x.1)∧1≤x.2)→eO l≠0∧l.length+1≤sz (eO l)
 |[],_=>⟨oh,by rw[eO,oY];exact bD _⟩
 |x::l,h=>by
  obtain⟨i1,i2⟩:=afX (l:=l) λy hy=>h y oG
  obtain⟨h1,h2⟩:=h x be;have h3:=OI h1.1 x.2.toNat;have h4:pk (lx x.1) x.2.toNat≠0:=λe=>by rw[e,kJ]at h3;omega
  have:=eH h4 i1;rw[eO];exact⟨oX h4 i1,by rw[fv];omega⟩
def J3{x:List Rat×Int}:∀{l:List (List Rat×Int)},x∈l→1≤x.2→lx x.1∣eO l
 |y::l,h,h1=>by
  rw[eO];rcases dC.1 h with rfl|h
  ·obtain⟨n,hn⟩:∃n,x.2.toNat=n+1:=⟨x.2.toNat-1,by omega⟩;rw[hn];exact qU (dvd_mul_left _ _) _
  ·exact fl (J3 h h1) _
def afY(a b:Rat):fQ a b= -fQ b a:=by
 unfold fQ;by_cases h1:a<b
 ·rw[aw h1,aq (Rat.not_lt.2 (Rat.le_of_lt h1)),aw h1]
 ·rw[aq h1];by_cases h2:b<a
  ·rw[aw h2,aw h2];rfl
  ·rw[aq h2,aq h2,aq h1];rfl
def afZ(a b:List Rat):∀i,qf a b i= -qf b a i
 |0=>rfl
 |i+1=>by
  rw[qf,qf,afY (b.getD i 0) (a.getD i 0),afZ a b i];generalize fQ (a.getD i 0) (b.getD i 0)=z;by_cases h:z=0
  ·rw[aq (λe=>e h),aq (λe=>e af)]
  ·rw[aw h,aw af];omega
def af0(a b:List Rat):nS a b= -nS b a:=by
 unfold nS;by_cases h:a.length=b.length
 ·rw[aq (λe=>e h),aq (λe=>e h.symm),afZ,h]
 ·rw[aw h,aw (λe=>h e.symm),TU]
def arE(x y:List Rat×Int):mm x y= -mm y x:=af0 _ _
structure ku(a:List Rat):Prop where
 can:cO a
 ne:a≠[]
 l9:a.length≤9
 hA:Ht (2^1500) (lx a)
 sz:∃c e h:Nat,CD c (2^h) (lx (c9 a))∧c≤2^e∧e≤600∧(a.length-2)*e+(h+12)≤191
section
variable{a:List Rat}
def ku.mo(h:ku a):Mo (lx (c9 a)):=A9 h.can h.ne
def ku.Gb(h:ku a):Rx.sz (lx (c9 a))=a.length:=by rw[dK (uN a),JT h.can]
def ku.div(h:ku a){D:Rx}(hD:Mo D)(hd:D∣lx (c9 a)):∃d e t,CD d (2^t) D∧d≤2^e∧e≤600∧(a.length-2)*e+t≤191:=by obtain⟨c,e,k,h1,h2,h3,h4⟩:=h.sz;obtain⟨d,_,d2,d3⟩:=h1.div h.mo hD hd;refine⟨d,e,k+12,d3.le ?_,dF (rE h1.1 d2) h2,h3,h4⟩;rw[h.Gb];have l9:=h.l9;have e1:2^(a.length-1)≤2^8:=jV ak af;have e2:a.length*2^k≤9*2^k:=eJ _ l9;have e3:=my e1 e2;rw[py];omega
def ku.ht(h:ku a){D:Rx}(hD:Mo D)(hd:D∣lx (c9 a)):Ht (2^600) D:=by obtain⟨d,e,t,h1,h2,h3,h4⟩:=h.div hD hd;exact h1.ht (dF h2 (JU 600 h3)) (JU 600 af)
def ku.qs(h:ku a){D:Rx}(hD:Mo D)(hd:D∣lx (c9 a))(i:Nat):QS 20 (D i):=(h.ht hD hd).qs (ry (t:=600) af) i
def VR{q:List Rat}(hq:cO q)(hm:Mo (lx q)):q.getD (q.length-1) 0=1:=by have:=hm;rw[Mo,dK hq]at this;exact this
def uO{q:List Rat}(h:q.getD (q.length-1) 0=1):cO q∧Mo (lx q):=by have hq:cO q:= .inr (by rw[h];decide);exact⟨hq,by rw[Mo,dK hq];exact h⟩
def ku.irH(h:ku a){q:List Rat}(hq:cO q)(hm:Mo (lx q))(hd:lx q∣lx (c9 a))(h2:2≤q.length)(hc:Co (lx q) (bG (lx q))):qc q∧∀i,QS 20 (q.getD i 0):=by
 have hl:q.length≤a.length:=by have:=j3 hd h.mo.ne;rwa[dK hq,h.Gb]at this
 have l9:=h.l9;obtain⟨d,e,t,h1,h3,h4,h5⟩:=h.div hm hd;have h6:(q.length-2)*e≤(a.length-2)*e:=eJ _ af;exact⟨⟨VR hq hm,h2,by omega,hc,λi=>arA h1 (VR hq hm) h3 (bD _) af i⟩,λi=>h.qs hm hd i⟩
def arG{L:List (Rx×Nat)}{m:Nat}(hm:1≤m):pF (kP m) L∣pF id L:=by
 have e:pF id L=pF (λk=>(k-kP m k)+kP m k) L:=CQ λx _=>by show x.2=_;unfold kP;split<;>omega
 rw[e,FM];exact dvd_mul_left _ _
def ku.out(h:ku a){L:List (Rx×Nat)}(hL:FL L)(hF:pF id L=lx (c9 a)){out:List (List Rat×Int)}(ho:out.map (λp=>(lx p.1,p.2))=ph L a.length 1)(hq:∀p∈out,cO p.1):
  (∀p∈out,qc p.1∧(∀i,QS 20 (p.1.getD i 0))∧1≤p.2)∧(fL out).length≤8∧(∀x∈fL out,wm 20 x)∧mq a (jg bQ mm (fL out) ((fL out).length-1)):=by
 have VS:∀p∈out,∃m:Nat,1≤m∧lx p.1=pF (kP m) L∧p.2=(m:Int)∧2≤p.1.length:=λp hp=>by
  have h1:(lx p.1,p.2)∈ph L a.length 1:=by rw[←ho];exact List.mem_map_of_mem (f:=λp:List Rat×Int=>(lx p.1,p.2)) hp
  obtain⟨m,m1,m2,m3⟩:=VQ h1;obtain⟨e1,e2⟩:=Prod.mk.inj m2;refine⟨m,m1,e1,e2,?_⟩;rw[←e1,dK (hq p hp)]at m3;exact m3
 have dJ:∀p∈out,qc p.1∧(∀i,QS 20 (p.1.getD i 0))∧1≤p.2:=λp hp=>by
  obtain⟨m,m1,m2,m3,m4⟩:=VS p hp;have hm:Mo (lx p.1):=by rw[m2];exact VP hL _
  obtain⟨i1,i2⟩:=h.irH (hq p hp) hm (by rw[m2,←hF];exact arG m1) m4 (by rw[m2];exact arC hL m);exact⟨i1,i2,by omega⟩
 have hxo:∀x∈fL out,∃p∈out,x.1∈wi p.1∧x.2=p.2:=λx hx=>by obtain⟨p,hp,hx⟩:=jK.1 hx;obtain⟨u,hu,rfl⟩:=nW.1 hx;exact⟨p,hp,hu,ae⟩
 have rP:∀x∈fL out,x.1.getD (x.1.length-1) 0=1∧cj (lx x.1)∧1≤x.2:=λx hx=>by obtain⟨p,hp,h1,h2⟩:=hxo x hx;obtain⟨i1,_,i2,i3⟩:=(J1 (dJ p hp).1).1 _ h1;exact⟨i1,i3,by rw[h2];exact(dJ p hp).2.2⟩
 have yV:eO (fL out)=lx (c9 a):=by
  rw[afW λp hp=>(dJ p hp).1,afP,ho,afS hL,←hF];refine CQ λx hx=>?_
  have h1:=hL.pos x hx;have h2:=aff hL hx;rw[hF,h.Gb]at h2;exact aw af
 have hlen:(fL out).length≤8:=by have:=(afX λx hx=>(rP x hx).2).2;rw[yV,h.Gb]at this;have:=h.l9;omega
 have arI:(fL out).Pairwise (λx y=>x.1≠y.1):=by
  have Ar:out.Pairwise (λx y=>x.2≠y.2):=by have:=afT (L:=L) a.length 1;rw[←ho]at this;exact(KC (R:=λx y:Rx×Int=>x.2≠y.2)).1 this
  have go:∀{o:List (List Rat×Int)},(∀p∈o,p∈out)→o.Pairwise (λx y=>x.2≠y.2)→(fL o).Pairwise (λx y=>x.1≠y.1):=by
   intro o;induction o with
   |nil=>intro _ _;exact List.Pairwise.nil
   |cons p o ih=>
    intro ho hp
    obtain⟨p1,p2⟩:=jW.1 hp
    have OT:=ho p be
    refine Bh.2 ⟨?_,ih (λq hq=>ho q (by simp[hq])) p2,λx hx y hy e=>?_⟩
    ·obtain⟨i1,i2⟩:=J1 (dJ p OT).1;refine KC.2 (afU (λu hu=>(i1 u hu).2.2.2) λQ hQ hd=>?_);rw[i2]at hd;exact arD (dJ p OT).1.co hQ hd
    ·obtain⟨u,hu,rfl⟩:=nW.1 hx;obtain⟨q,AL,HP⟩:=jK.1 hy;obtain⟨v,hv,rfl⟩:=nW.1 HP;have e:u=v:=e;subst e;have hqo:=ho q (by simp[AL]);obtain⟨m,m1,m2,m3,_⟩:=VS p OT;obtain⟨n,n1,n2,n3,_⟩:=VS q hqo;obtain⟨i1,i2⟩:=J1 (dJ p OT).1;obtain⟨j1,j2⟩:=J1 (dJ q hqo).1;obtain⟨_,_,um,ui⟩:=i1 u hu;have d1:lx u∣pF (kP m) L:=by rw[←m2,←i2];exact OS hu
     have d2:lx u∣pF (kP n) L:=by rw[←n2,←j2];exact OS hv
     obtain⟨x,x1,x2,x3⟩:=AR ui d1;obtain⟨y,y1,y2,y3⟩:=AR ui d2;have ex:=ui.eq (hL.ig x x1) um (hL.mo x x1) x3;have ey:=ui.eq (hL.ig y y1) um (hL.mo y y1) y3;have kx:x.2=m:=Nr.1 (by have:=FO m x.2;omega);have ky:y.2=n:=Nr.1 (by have:=FO n y.2;omega);by_cases exy:x=y
     ·refine p1 q AL ?_;rw[m3,n3,←kx,←ky,exy]
     ·exact FL.T9 hL.so x1 y1 exy (by rw[←ex,←ey])
  exact go (λp hp=>hp) Ar
 have J4:(jg bQ mm (fL out) ((fL out).length-1)).Perm (fL out):=by
  cases e:fL out with
  |nil=>exact zB _
  |cons x l=>exact I1 _ _ Kj
 refine⟨dJ,hlen,λx hx=>?_,λx hx=>rP x (J4.mem_iff.1 hx),by rw[arB J4,yV],J4.symm.pairwise arI (λh e=>h e.symm),?_⟩
 ·obtain⟨h1,h2,h3⟩:=rP x hx;obtain⟨h4,h5⟩:=uO h1;have hd:lx x.1∣lx (c9 a):=by rw[←yV];exact J3 hx h3
  have hl:=j3 hd h.mo.ne;rw[dK h4,h.Gb]at hl;have:=h.l9;exact⟨by omega,λi=>h.qs h5 hd i⟩
 ·rw[AQ];cases e:fL out with
  |nil=>exact λt ht=>absurd ht (zA _)
  |cons x l=>exact TQ arE _ _ Kj
end
end Go.El
namespace Go.El
open Go Go.Proofs
def arJ{out:List (List Rat×Int)}{i:Nat}(h:i<out.length):fL (out.take (i+1))=fL (out.take i)++(wi (out.getD i bQ).1).map λu=>(u,(out.getD i bQ).2):=by
 have wj:out.take (i+1)=out.take i++[out.getD i bQ]:=by rw[uV,aU,cr h];rfl
 rw[wj,fL,zw];simp[fL]
def af3{L:List (Rx×Nat)}:∀k n,(ph L k n).length≤k
 |0,_=>bD _
 |k+1,n=>by
  have:=af3 (L:=L) k (n+1);rw[ph,kA];split
  ·rw[List.length_singleton];omega
  ·rw[mr];omega
def af4{out:List (List Rat×Int)}(i:Nat):(fL (out.take i)).length≤(fL out).length:=by
 have e:fL out=fL (out.take i)++fL (out.drop i):=by
  conv=>lhs;rw[←xP i out]
  rw[fL,zw];rfl
 rw[e,kA];omega
set_option maxRecDepth 100000 in
set_option maxHeartbeats 16000000 in
def VT{a:List Rat}(h:ku a):∃fs,mq a fs∧fs.length≤8∧(∀x∈fs,wm 20 x)∧aG Tryz.prog 72 [cS .q a] (.t [(true,av .q (a.getD (a.length-1) 0)),(false,[.S UT fs]),(false,[.I .i64 0])]):=by
 obtain⟨L,hL,hF⟩:=Rx.ack _ (Rx.lx (c9 a)) (fT _) h.mo;obtain⟨out,o1,o2,o3⟩:=aq0 (t:=1500) af h.can h.ne h.l9 h.hA hL hF (λD hD hd=>(h.ht hD (hF▸hd)).le (Rx.JU 1500 (k:=600) ak));obtain⟨p1,p2,p3,p4⟩:=h.out hL hF o2 o3;have J4:(jg bQ mm (fL out) ((fL out).length-1)).Perm (fL out):=by
  cases e:fL out with
  |nil=>exact zB _
  |cons x l=>exact I1 _ _ Kj
 refine⟨_,p4,by rw[AQ];exact p2,λx hx=>p3 x (J4.mem_iff.1 hx),?_⟩;refine aX Tryz.func72 ae ae ae ae ae ak ?_;have la:=cZ.2 h.ne;have l9:=h.l9;refine rr ae (aj (rr ae (ax ae (λh1=>?_) (λ_=>aC (ai ?_)))))
 ·exfalso;have h1:((a.length:Int)==0)=true:=h1;have:=eq_of_beq h1;omega
 refine aj (rr ae (ax ae (λh1=>?_) (λ_=>aC (ai ?_))))
 ·exfalso;have h1:(a.length:Int)-1>12:=a9 h1;omega
 refine rr ae (aj (rb (w9 ae ae o1 (re ae ?_))));have Lr:out.length≤9:=by have h1:=af3 (L:=L) a.length 1;rw[←o2,dM]at h1;omega
 refine dy (oP 4001000 ae) ?_;refine aH (bA (α:=Nat) (λi=>⟨[(0,cS .q a),(2,.c (.P 0 0)),(4,cI 0),(5,.c (.X 20000000)),(20,cS UT out),(21,cI out.length),(22,cI i)],[(20000000,.vec 80 UT (fL (out.take i))),(0,.box 46 0 [.B false,.V (.slice none 0 0),.B false,.V (.slice none 0 0)])],30,[]⟩) (λi=>i≤out.length) (λi=>out.length-i) 0 (bK _) ?_ ?_)
 ·exact tv 20000000 80 UT ⟨.inl (sR ae),.inl (sR ae),.inl (sE ae ae),.inr ⟨ae,ae⟩,.inl (sE ae ae),.inl (sR ae),.inl (sE ae ae),ah⟩ ⟨bE ae ae,ah⟩ ae (eQ.of ae)
 intro i hi;refine rr ae (aj (ax ae (λh1=>?_) (λh1=>?_)))
 ·have h1:i<out.length:=by have h1:(i:Int)<(out.length:Int):=a9 h1;omega
  have tZ:i+1≤out.length:=h1;have n8:(out.getD ((i:Int)).toNat (ET.eR UT))=out.getD i bQ:=ay (λz=>out.getD z bQ) (bu i);obtain⟨g1,g2,g3⟩:=p1 (out.getD i bQ) Pg;have hft:=arJ h1;have oQ:=af4 (out:=out) (i+1);have dJ:=arl g1 g2;have hi8:(wi (out.getD i bQ).1).length≤8:=by rw[wi,dM];exact(afI g1.mf).1
  refine aC (ai (aj (aH (rr ae ?_ (hp:=aN)))));rw[n8];generalize out.getD i bQ=pr at*;obtain⟨q,m⟩:=pr;simp only at g1 g2 g3 hft dJ hi8;generalize wi q=us at*;refine rb (rc ae ae dJ (re ae ?_));refine aH (bA (α:=Nat) (λj=>⟨[(0,cS .q a),(2,.c (.P 0 0)),(4,cI 0),(5,.c (.X 20000000)),(7,.c (.P 31002000 0)),(20,cS UT out),(21,cI out.length),(22,cI i),(28,cS (.sl .q) us),(29,cI us.length),(30,cI j)],[(20000000,.vec 80 UT (fL (out.take i)++(us.take j).map λu=>(u,m))),(31002000,.box 80 0 [.S .q q,.I .i64 m]),(0,.box 46 0 [.B false,.V (.slice none 0 0),.B false,.V (.slice none 0 0)])],40,[]⟩) (λj=>j≤us.length) (λj=>us.length-j) 0 (bK _) (wk ⟨sR ae,sR ae,sR ae,sR ae,sR ae,sR ae,sR ae,sR ae,sR ae,sR ae,sE ae ae,ah⟩ ⟨bE ae ?_,bE ae ae,bR ae,ah⟩) ?_)
  ·rw[PE,GL,kB]
  intro j hj;refine rr ae (aj (ax ae (λh2=>?_) (λh2=>?_)))
  ·have h2:j<us.length:=by have h2:(j:Int)<(us.length:Int):=a9 h2;omega
   have arL:(us.getD ((j:Int)).toNat (ET.eR (.sl .q)))=us.getD j []:=ay (λz=>us.getD z []) (bu j);have wj:us.take (j+1)=us.take j++[us.getD j []]:=by rw[uV,aU,cr h2];rfl
   have tj:(fL (out.take i)++(us.take j).map λu=>(u,m)).length≤20:=by have:=af4 (out:=out) i;rw[kA,dM,fI];omega
   refine aC (ai (aj (aH (rr ae ?_ (hp:=aN)))));rw[arL];refine cK (rl UT [(us.getD j [],m)] ae ae (ra ae ae ae ae ae ae ae ae ae ?_ ?_ (re ae (a6 (ai (rt ae (hp:=aN) (a8 (j+1) h2 (by show us.length-(j+1)<us.length-j;omega) (Wk.trans (wk (st':=⟨[(0,cS .q a),(2,.c (.P 0 0)),(4,cI 0),(5,.c (.X 42006000)),(7,.c (.P 31002000 0)),(20,cS UT out),(21,cI out.length),(22,cI i),(28,cS (.sl .q) us),(29,cI us.length),(30,cI (j+1:Nat))],[(42006000,.vec 80 UT (fL (out.take i)++(us.take (j+1)).map λu=>(u,m))),(31002000,.box 80 0 [.S .q q,.I .i64 m]),(0,.box 46 0 [.B false,.V (.slice none 0 0),.B false,.V (.slice none 0 0)])],44,[]⟩) ⟨sR ae,sR ae,sR ae,sR ae,sR ae,sR ae,sR ae,sR ae,sR ae,sR ae,sR ae,ah⟩ ⟨bE ae ?_,bR ae,bR ae,ah⟩) (Wk.trans (qI 20000000 42006000 ae ae ae) bY)))))))))
   ·show((fL (out.take i)++(us.take j).map λu=>(u,m)).length+1+((fL (out.take i)++(us.take j).map λu=>(u,m)).length+1)/4+192)*32≤_;omega
   ·show((fL (out.take i)++(us.take j).map λu=>(u,m)).length+1)*2≤_;omega
   ·rw[wj,eh,←np];rfl
  ·have h2:j=us.length:=by have h2:¬(j:Int)<(us.length:Int):=bC h2;omega
   subst h2;rw[iK,←hft];exact bh (bt (bq (bp (a6 (ai (rt ae (hp:=aN) (a8 (i+1) tZ (by show out.length-(i+1)<out.length-i;omega) bY)))))))
 ·have h1:i=out.length:=by have h1:¬(i:Int)<(out.length:Int):=bC h1;omega
  subst h1;rw[iK];refine bh (bt (bq (bp (ai ?_))));refine rb (n9 20000000 ae (arw (w:=20) ak _ af p3) ae ae (re ae ?_));refine dy (oP 20000000 ae) (rr ae (aF (aL ar ae (au.of_eq ?_))));have e:((a.length:Int)-1).toNat=a.length-1:=af;show AV.t [(true,av .q (a.getD ((a.length:Int)-1).toNat 0)),(false,[C.S UT (jg bQ mm (fL out) ((fL out).length-1))]),(false,[.I .i64 0])]=_;rw[e]
def af6(x:Rat):js (.a (List.take 4 (List.drop 0 (av .q x))))=some (av .q x):=rfl
set_option maxRecDepth 100000 in
set_option maxHeartbeats 4000000 in
def arM{w:Nat}(hw:w≤100000)(xs:List (Rat))(hl:xs.length≤12)(hx:∀x∈xs,QS w x):nf Tryz.prog 213 [.c (.X 0),cI 0,cI xs.length,mc 79] 46 .q xs (.t []) (jg (0:Rat) fQ xs (xs.length-1)):=by
 refine qJ Tryz.func213 ae ae ae ae ae ak ?_;refine rr ae ?_;refine aH (bA (α:=Nat) (λi=>⟨[(0,.c (.X 0)),(1,cI 0),(2,cI xs.length),(3,mc 79),(8,cI i)],[(0,.vec 46 .q (jg (0:Rat) fQ xs (i-1)))],2,[]⟩) (λi=>1≤i∧i-1≤xs.length-1) (λi=>xs.length-i) 1 ⟨bD _,bK _⟩ (wk ⟨sR ae,sR ae,sR ae,sR ae,sR ae,ah⟩ ⟨bE ae ae,ah⟩) ?_);rintro i ⟨tZ,hi⟩;refine aj (rr ae (ax ae (λh=>?_) (λh=>?_)))
 ·have h:i<xs.length:=by have h:(i:Int)<(xs.length:Int):=a9 h;omega
  have hS:jg (0:Rat) fQ xs i=si (0:Rat) fQ i (jg (0:Rat) fQ xs (i-1)):=by obtain⟨q,rfl⟩:∃q,i=q+1:=⟨i-1,by omega⟩;rfl
  refine aC (ai (aj (aH (rr ae ?_))));refine aH (bA (α:=Nat×List (Rat)) (λx=>⟨[(0,.c (.X 0)),(1,cI 0),(2,cI xs.length),(3,mc 79),(8,cI i),(9,cI x.1)],[(0,.vec 46 .q x.2)],4,[]⟩) (λx=>si (0:Rat) fQ x.1 x.2=jg (0:Rat) fQ xs i∧x.1≤i∧x.2.length=xs.length∧∀y∈x.2,QS w y) (λx=>x.1) (i,jg (0:Rat) fQ xs (i-1)) ⟨hS.symm,bD _,AQ xs _,λy hy=>hx y (abM af hy)⟩ bY ?_);rintro⟨j,ys⟩ ⟨fo,jC,nY,sj⟩;simp only at fo jC nY sj;refine aj (rb (rg 21 ae ae (λh1=>?_) (λh1=>?_)))
  ·have h1:0<j:=by have h1:(j:Int)>0:=a9 h1;omega
   obtain⟨j,rfl⟩:∃q,j=q+1:=⟨j-1,by omega⟩;have e1:(((j+1:Nat):Int)).toNat=j+1:=bu _;have e2:(((j+1:Nat):Int)-1).toNat=j:=af;have g1:ys.getD (j+1) 0∈ys:=by rw[FD af];exact k6 _
   have g2:ys.getD j 0∈ys:=by rw[FD af];exact k6 _
   have hc:aG Tryz.prog 79 ([]++([.a (av .q (ys.getD (((j+1:Nat):Int)).toNat 0)),.a (av .q (ys.getD (((j+1:Nat):Int)-1).toNat 0))]++[])) (cI (fQ (ys.getD (j+1) 0) (ys.getD j 0))):=by rw[e1,e2];exact ab6 _ _ (sj _ g1) (sj _ g2) af
   rw[si]at fo;refine S5 ae ae ae ae ae (.inl ⟨ae,ae,ae⟩) ae hc (re ae (ax ae (λh2=>?_) (λh2=>?_))) (hp:=aN)
   ·have h2:fQ (ys.getD (j+1) 0) (ys.getD j 0)<0:=a9 h2;rw[aw h2]at fo;refine aC (ai (aj (aH (cK (lV (ys.getD j 0) ae ae ae ae ?_ ?_ (lV (ys.getD (j+1) 0) ae ae ae ae ?_ ?_ (re ae ?_) (hp:=?_)) (hp:=?_))))))
    ·show js (.a (List.take 4 (List.drop 0 (av .q (ys.getD (((j+1:Nat):Int)-1).toNat 0)))))=_;rw[e2];exact af6 _
    ·show(((j+1:Nat):Int)).toNat<ys.length;omega
    ·show js (.a (List.take 4 (List.drop 0 (av .q (ys.getD (((j+1:Nat):Int)).toNat 0)))))=_;rw[e1];exact af6 _
    ·show(((j+1:Nat):Int)-1).toNat<(ys.set _ _).length;rw[gO];omega
    ·refine a6 (ai (rt ae (hp:=aN) (a8 (j,vP (0:Rat) ys j) ⟨fo,by show j≤i;omega,by rw[I0];exact nY,λy hy=>sj y ((TN af).mem_iff.1 hy)⟩ po (wk ⟨sR ae,sR ae,sR ae,sR ae,sR ae,⟨_,ae,?_⟩,ah⟩ ⟨bE ae ?_,ah⟩))))
     ·exact au.of_eq (ay (λz=>AV.c (C.I .i64 z)) (show((j+1:Nat):Int)-1=(j:Int)by omega))
     ·show aK.vec 46 .q ((ys.set (((j+1:Nat):Int)).toNat _).set (((j+1:Nat):Int)-1).toNat _)=_;rw[e1,e2];rfl
    ·show 0≤((j+1:Nat):Int)-1∧((j+1:Nat):Int)-1<((ys.set _ _).length:Int);rw[gO];omega
    ·simp only[Pr.an,Pr.h,num,aA,true_and,and_true];omega
   ·have h2:¬fQ (ys.getD (j+1) 0) (ys.getD j 0)<0:=bC h2;rw[aq h2]at fo;subst fo;exact bh (bt (bq (bp (a6 (ai (rt ae (hp:=aN) (a8 (i+1) ⟨by omega,by omega⟩ Gs (wk ⟨sR ae,sR ae,sR ae,sR ae,sE ae ae,ah⟩ ⟨bR ae,ah⟩))))))))
  ·have h1:j=0:=by have h1:¬(j:Int)>0:=bC h1;omega
   subst h1;have fo:ys=jg (0:Rat) fQ xs i:=fo;subst fo;exact re ae (ax ae (λh2=>by cases h2) (λ_=>bh (bt (bq (bp (a6 (ai (rt ae (hp:=aN) (a8 (i+1) ⟨by omega,by omega⟩ Gs (wk ⟨sR ae,sR ae,sR ae,sR ae,sE ae ae,ah⟩ ⟨bR ae,ah⟩))))))))))
 ·have h:i-1=xs.length-1:=by have h:¬(i:Int)<(xs.length:Int):=bC h;omega
  rw[h];exact bh (bt (bq (bp (Ah ar ae (au.refl _) ae))))
set_option maxRecDepth 100000 in
set_option maxHeartbeats 4000000 in
def arN{w:Nat}(hw:w≤100000)(xs:List (Rat))(hl:xs.length≤12)(hx:∀x∈xs,QS w x)(t:Int):nf Tryz.prog 147 [.c (.X 0),cI 0,cI xs.length,cI t,mc 79] 46 .q xs (.t []) (jg (0:Rat) fQ xs (xs.length-1)):=by
 refine qJ Tryz.func147 ae ae ae ae ae ak ?_;refine rr ae (rr ae ?_);refine aH (bA (α:=Unit) (λ_=>⟨[(0,.c (.X 0)),(1,cI 0),(2,cI xs.length),(3,cI t),(4,mc 79)],[(0,.vec 46 .q xs)],3,[]⟩) (λ_=>True) (λ_=>0) () ah bY ?_);rintro- -;refine aH (rr ae (aj (rr ae (ax ae (λh=>?_) (λh=>?_)))))
 ·exact rb (n9 0 ae (arM hw xs hl hx) ae ae (re ae (aF (bS (fq (gU (fq (uh ar ae (au.refl _) ae))))))))
 ·have h:¬((xs.length:Int)-0≤12):=bC h;omega
def af7{w:Nat}(hw:w≤100000)(xs:List (Rat))(hl:xs.length≤12)(hx:∀x∈xs,QS w x):nf Tryz.prog 78 [.c (.X 0),mc 79] 46 .q xs (.t []) (jg (0:Rat) fQ xs (xs.length-1)):=by
 refine qJ Tryz.func78 ae ae ae ae ae ak ?_;refine rr ae ?_;have hlen:aG Tryz.prog 130 [AV.c (num .u64 (xs.length:Int)).1] (cI (qN xs.length)):=by rw[show(AV.c (num .u64 (xs.length:Int)).1)=cU (xs.length:Int)from ay (λx=>AV.c (C.I .u64 x)) (wrap_u64 _ af af)];exact LU _ hl
 refine cK (rc ae ae hlen (n9 0 ae (arN hw xs hl hx _) ae ae (re ae (Ah ar ae (au.refl _) ae))))
def iI:List (List Rat×Int)→List Rat
 |[]=>[]
 |x::l=>(if x.1.length=2 then[-(x.1.getD 0 0)]else[])++iI l
def af8:∀l m,iI (l++m)=iI l++iI m
 |[],m=>rfl
 |x::l,m=>by rw[mX,iI,iI,af8 l m,np]
def OU:∀l,(iI l).length≤l.length
 |[]=>bD _
 |x::l=>by
  have:=OU l;rw[iI,kA,fv];split
  ·rw[List.length_singleton];omega
  ·rw[mr];omega
def J5{r:Rat}:∀{l:List (List Rat×Int)},r∈iI l→∃x∈l,x.1.length=2∧r= -(x.1.getD 0 0)
 |x::l,h=>by
  rw[iI]at h;rcases b6.1 h with h|h
  ·split at h
   ·rename_i h2;exact⟨x,by simp,h2,jJ.1 h⟩
   ·cases h
  ·obtain⟨y,h1,h2⟩:=J5 h;exact⟨y,by simp[h1],h2⟩
set_option maxRecDepth 100000 in
set_option maxHeartbeats 16000000 in
def arO{a:List Rat}(h:ku a):∃fs,mq a fs∧fs.length≤8∧(∀x∈fs,wm 20 x)∧aG Tryz.prog 24 [cS .q a] (cS .q (jg 0 fQ (iI fs) ((iI fs).length-1))):=by
 obtain⟨fs,f1,f2,f3,f4⟩:=VT h;refine⟨fs,f1,f2,f3,?_⟩;have kF:=OU fs;have JS:∀r∈iI fs,QS 20 r:=λr hr=>by obtain⟨x,h1,_,rfl⟩:=J5 hr;exact((f3 x h1).q 0).neg
 refine aX Tryz.func24 ae ae ae ae ae ak ?_;refine rr ae (rb (rc ae ae f4 (re ae (rr ae (aj (rr ae ?_))))));refine aH (bA (α:=Nat) (λi=>⟨[(6,.c (.X 20000000)),(15,cS UT fs),(16,cI fs.length),(17,cI i)],[(20000000,.vec 46 .q (iI (fs.take i)))],30,[]⟩) (λi=>i≤fs.length) (λi=>fs.length-i) 0 (bK _) ?_ ?_)
 ·exact tv 20000000 46 .q ⟨.inr ⟨ae,ae⟩,.inl (sR ae),.inl (sR ae),.inl (sE ae ae),ah⟩ ah ae (eQ.of ae)
 intro i hi;refine rr ae (aj (ax ae (λh1=>?_) (λh1=>?_)))
 ·have h1:i<fs.length:=by have h1:(i:Int)<(fs.length:Int):=a9 h1;omega
  have n8:(fs.getD ((i:Int)).toNat (ET.eR UT))=fs.getD i bQ:=ay (λz=>fs.getD z bQ) (bu i);have LA:=f3 (fs.getD i bQ) Pg;have wj:fs.take (i+1)=fs.take i++[fs.getD i bQ]:=by rw[uV,aU,cr h1];rfl
  have yg:iI (fs.take (i+1))=iI (fs.take i)++(if(fs.getD i bQ).1.length=2 then[-((fs.getD i bQ).1.getD 0 0)]else[]):=by rw[wj,af8,iI,iI,kB]
  have aa7:=OU (fs.take i);rw[fI]at aa7;refine aC (ai (aj (aH (rr ae ?_ (hp:=aN)))));rw[n8];generalize fs.getD i bQ=pr at*;obtain⟨q,m⟩:=pr;simp only at yg;refine rr ae (ax ae (λh2=>?_) (λh2=>?_))
  ·have h2:q.length=2:=by have h2:((q.length:Int)==2)=true:=h2;have:=eq_of_beq h2;omega
   rw[aw h2]at yg;have nF:=LA.q 0;have hng:=ab1 (q.getD 0 0) (nF.n.sm af);refine cK ?_;refine rc ae ae hng ?_ (hp:=aN);refine rl .q [-(q.getD 0 0)] ae ae (ra ae ae ae ae ae ae ae ae ae ?_ ?_ (re ae (a6 (ai (rt ae (hp:=aN) (a8 (i+1) h1 Pj (Wk.trans (wk (st':=⟨[(6,.c (.X 33007000)),(15,cS UT fs),(16,cI fs.length),(17,cI (i+1:Nat))],[(33007000,.vec 46 .q (iI (fs.take (i+1))))],35,[]⟩) ⟨sR ae,sR ae,sR ae,sR ae,ah⟩ ⟨bE ae ?_,ah⟩) (Wk.trans (qI 20000000 33007000 ae ae ae) bY))))))))
   ·show((iI (fs.take i)).length+1+((iI (fs.take i)).length+1)/4+192)*64≤_;omega
   ·show((iI (fs.take i)).length+1)*4≤_;omega
   ·rw[yg]
  ·have h2:q.length≠2:=λe=>by have h2:((q.length:Int)==2)=false:=h2;rw[e]at h2;cases h2
   rw[aq h2,kB]at yg;refine aC (a6 (ai (rt ae (hp:=aN) (a8 (i+1) h1 Pj (wk ⟨sR ae,sR ae,sR ae,sR ae,ah⟩ ⟨bE ae ?_,ah⟩)))));rw[yg]
 ·have h1:i=fs.length:=by have h1:¬(i:Int)<(fs.length:Int):=bC h1;omega
  subst h1;rw[iK];refine bh (bt (bq (bp (ai ?_))));refine rb (n9 20000000 ae (af7 (w:=20) ak _ af JS) ae ae (re ae ?_));exact dy (oP 20000000 ae) (rr ae (aF (aL ar ae (au.refl _))))
def OV(n g:Int)(hg:g≠0)(hn:Sm n)(qM:Sm g):aG Tryz.prog 228 [aZ n,aZ g] (aZ (n/g)):=by refine aX Tryz.func228 ae ae ae ae ae ak ?_;refine rr ae (rb (rc ae ae (ajC n g hg hn qM) (re ae (rr ae (aF (aL ar ae (au.of_eq ?_)))))));rfl
def Sm.gcd{n d:Int}(hd:d≠0)(h:Sm d):Sm ((Int.gcd n d:Nat):Int):=by have h1:Int.gcd n d≤d.natAbs:=Nat.gcd_le_right _ af;have h2:(az (((Int.gcd n d:Nat):Int)).natAbs).length≤(az d.natAbs).length:=te (by rw[pt];exact h1);exact dF h2 h
def Sm.ng{z:Int}(h:Sm z):Sm (-z):=by
 have e:dc (-z)=dc z:=by unfold dc;rw[Int.natAbs_neg]
 unfold Sm at*;rw[e];exact h
def af9(n d:Int)(hd:d≠0)(hn:Sm n)(uk:Sm d):aG Tryz.prog 153 [aZ n,aZ d] (aQ (Rat.divInt n d)):=by
 refine aX Tryz.func153 ae ae ae ae ae ak ?_;have RJ:Int.gcd n d≠0:=λh0=>hd (Po.1 h0).2
 obtain⟨p1,p2⟩:=HW n d hd;have qM:Sm ((Int.gcd n d:Nat):Int):=Sm.gcd hd uk;refine rr ae (rb (rc ae ae (Zc n d hn uk) (re ae (aj (rb (rc ae ae (EH d) (re ae ?_)))))));refine ax ae (λh=>?_) (λh=>?_)
 ·have h:d<0:=by
   have h:cN d<0:=cq;unfold cN at h;split at h
   ·assumption
   ·(try split at h)<;>omega
  rw[aw h]at p1 p2;refine cK (rc ae ae (YP _) (re ae (ai (rb ?_))));refine rc ae ae (OV n _ af hn (Sm.ng qM)) (rc ae ae (OV d _ af uk (Sm.ng qM)) (re ae (aF (aL ar ae (au.of_eq ?_)))));unfold aQ;simp only[av,p1,p2];rfl
 ·have h:¬d<0:=by
   have h:¬cN d<0:=cq;unfold cN at h;split at h
   ·omega
   ·assumption
  rw[aq h]at p1 p2;refine aC (ai (rb ?_));refine rc ae ae (OV n _ af hn qM) (rc ae ae (OV d _ af uk qM) (re ae (aF (aL ar ae (au.of_eq ?_)))));unfold aQ;simp only[av,p1,p2];rfl
def arQ{k:Nat}(a b:Rat)(ha:QS k a)(hb:QS k b)(hk:k≤100000000000):aG Tryz.prog 82 [aQ a,aQ b] (aQ (a*b)):=by
 refine aX Tryz.func82 ae ae ae ae ae ak ?_;have hd:=Bu (den_pos a) (den_pos b);have e:Rat.divInt (a.num*b.num) ((a.den:Int)*(b.den:Int))=a*b:=by rw[←Kw,rC,rC]
 rw[←e];refine rr ae (rb (rc ae ae (xb _ _ (ha.n.sm af) (hb.n.sm af)) (rc ae ae (xb _ _ (ha.d.sm af) (hb.d.sm af)) (rc ae ae (af9 _ _ af ((ha.n.mul hb.n).sm af) ((ha.d.mul hb.d).sm af)) (re ae (aF (aL ar ae (au.of_eq ?_))))))));rfl
def arR{k:Nat}(a b:Rat)(ha:QS k a)(hb:QS k b)(hk:k≤100000000000):aG Tryz.prog 121 [aQ a,aQ b] (aQ (a+b)):=by
 refine aX Tryz.func121 ae ae ae ae ae ak ?_;have m1:=ha.n.mul hb.d;have m2:=hb.n.mul ha.d;have m3:=ha.d.mul hb.d;have hs:=m1.add m2;have hd:=Bu (den_pos a) (den_pos b);have e:Rat.divInt (a.num*(b.den:Int)+b.num*(a.den:Int)) ((a.den:Int)*(b.den:Int))=a+b:=by have h1:=den_pos a;have h2:=den_pos b;rw[←WH _ _ af af,rC,rC]
 rw[←e];refine rr ae (rb (rc ae ae (xb _ _ (ha.n.sm af) (hb.d.sm af)) (rc ae ae (xb _ _ (hb.n.sm af) (ha.d.sm af)) (rc ae ae (YR _ _ (m1.sm af) (m2.sm af)) (rc ae ae (xb _ _ (ha.d.sm af) (hb.d.sm af)) (rc ae ae (af9 _ _ af (hs.sm af) (m3.sm af)) (re ae (aF (aL ar ae (au.of_eq ?_))))))))));rfl
def arS{k:Nat}(a b:Rat)(ha:QS k a)(hb:QS k b)(hk:k≤100000000000):aG Tryz.prog 55 [aQ a,aQ b] (cI (dz (a.num*(b.den:Int)) (b.num*(a.den:Int)))):=by refine aX Tryz.func55 ae ae ae ae ae ak ?_;refine rr ae (rb (rc ae ae (xb _ _ (ha.n.sm af) (hb.d.sm af)) (rc ae ae (xb _ _ (hb.n.sm af) (ha.d.sm af)) (rc ae ae (YQ _ _) (re ae (aF (aL ar ae (au.refl _))))))))
def af'(a:Int)(ha:Sm a):aG Tryz.prog 120 [aZ a] (cB true):=by
 refine aX Tryz.func120 ae ae ae ae ae ak ?_;have hlen:(az a.natAbs).length≤1099511627776:=ha;have X':(dc a).length≤1099511627776:=ha;refine rr ae (rr ae (aj (rr ae (ax ae (λh=>?_) (λh=>aC (ai ?_))))))
 ·have h:((az a.natAbs).length:Int)=0:=eq_of_beq h;have h0:a=0:=by have:¬0<(az a.natAbs).length:=af;rw[nh]at this;omega
  subst h0;exact rr ae (aF (bS (aL ar ae (au.refl _))))
 ·have h:((az a.natAbs).length:Int)≠0:=kU h;have pM:0<(dc a).length:=by show 0<(az a.natAbs).length;omega
  refine rr ae (hp:=aN) (aF (aL ar ae (au.of_eq ?_)));have hc:=u9 a.natAbs;refine ay cB ?_;rcases hc with e|e
  ·rw[e]at h;simp at h
  ·show((az a.natAbs).getD (((az a.natAbs).length:Int)-1).toNat 0 !=0)=true;rw[show(((az a.natAbs).length:Int)-1).toNat=(az a.natAbs).length-1 by omega];simpa using e
def aga(a b:Int)(ha:Sm a):aG Tryz.prog 76 [aZ a,aZ b] (cB (decide (a=b))):=by
 refine aX Tryz.func76 ae ae ae ae ae ak ?_;have ha:(dc a).length≤1099511627776:=ha;refine rr ae (aj (rb (rg 11 ae ae (λh=>?_) (λh=>?_))))
 ·have h:bN a≠bN b:=ND.1 h;refine re ae (ax ae (λ_=>rr ae (aF (bS (aL ar ae (au.of_eq (ay cB ?_)))))) (λh2=>by cases h2));rw[kC (λe=>h qh)]
 ·have h:bN a=bN b:=by
   have h:¬(bN a !=bN b)=true:=by rw[h];decide
   rw[ND]at h;exact Decidable.not_not.1 h
  refine re ae (ax ae (λh2=>?_) (λh2=>aC (ai ?_)))
  ·have h2:=oU h2;refine rr ae (aF (bS (aL ar ae (au.of_eq (ay cB ?_)))));rw[kC (λe=>h2 qh)]
  ·have h2:=oV h2;have hl:(dc a).length=(dc b).length:=af;refine aj (rr ae (aH (bA (α:=Nat) (λi=>⟨[(2,.c (.P 0 0)),(3,.c (.P 1000 0)),(5,cI i)],[(0,.box 44 0 (av .z a)),(1000,.box 44 0 (av .z b))],4,[]⟩) (λi=>i≤(dc a).length∧(dc a).take i=(dc b).take i) (λi=>(dc a).length-i) 0 ⟨bK _,by simp⟩ (wk ⟨sR ae,sR ae,sR ae,ah⟩ ⟨bE ae ae,bE ae ae,ah⟩) ?_)));rintro i ⟨hi,ht⟩;refine aj (rr ae (ax ae (λh3=>?_) (λh3=>?_)))
   ·have h3:i<(dc a).length:=by have h3:(i:Int)<((dc a).length:Int):=a9 h3;omega
    refine aC (ai (aj (aH (rr ae (hp:=aN) (ax ae (λh4=>?_) (λh4=>aC (a6 (ai ?_))))))))
    ·have h4:(dc a).getD i 0≠(dc b).getD i 0:=oU h4;refine rr ae (aF ?_);repeat(first|refine bS ?_|refine fq ?_|refine gU ?_)
     refine aL ar ae (au.of_eq (ay cB ?_));rw[kC (λe=>h4 qh)]
    ·have h4:(dc a).getD i 0=(dc b).getD i 0:=oV h4;exact rt ae (a8 (i+1) ⟨h3,by rw[pQ _ i h3,pQ _ i af,ht,h4]⟩ (by show(dc a).length-(i+1)<(dc a).length-i;omega) (wk ⟨sR ae,sR ae,sR ae,ah⟩ ⟨bE ae ae,bE ae ae,ah⟩))
   ·have h3:i=(dc a).length:=by have h3:¬(i:Int)<((dc a).length:Int):=bC h3;omega
    subst h3;rw[iK,lI af]at ht;refine bh (bt (bq (bp (ai (rr ae (aF (aL ar ae (au.of_eq (ay cB ?_)))))))));rw[oK (acK h ht)]
def agb{k:Nat}(a b:Rat)(ha:QS k a)(hk:k≤100000000000):aG Tryz.prog 20 [aQ a,aQ b] (cB (decide (a=b))):=by
 refine aX Tryz.func20 ae ae ae ae ae ak ?_;refine rr ae (rb (rc ae ae (aga a.num b.num (ha.n.sm af)) (rg 10 ae ae (λh=>?_) (λh=>?_))))
 ·have h:a.num=b.num:=a9 h;refine fj ae ae ae ae ae (aga (a.den:Int) (b.den:Int) (ha.d.sm af)) (re ae (aF (aL ar ae (au.of_eq ?_))));refine ay cB ?_;by_cases e:(a.den:Int)=(b.den:Int)
  ·rw[oK e,oK (Rat.ext h af)];rfl
  ·rw[kC e,kC (λe2=>e (by rw[e2]))];rfl
 ·have h:¬a.num=b.num:=bC h;refine re ae (aF (aL ar ae (au.of_eq ?_)));refine ay cB ?_;rw[kC (λe2=>h (by rw[e2]))]
def arT{k:Nat}(a:Rat)(ha:QS k a)(hk:k≤100000000000):aG Tryz.prog 52 [aQ a] (cB true):=by
 refine aX Tryz.func52 ae ae ae ae ae ak ?_;have hd:=den_pos a;refine rr ae (aj (rb (rc ae ae (af' a.num (ha.n.sm af)) (rg 7 ae ae (λh=>by cases h) (λ_=>?_)))));refine fj ae ae ae ae ae (af' (a.den:Int) (ha.d.sm af)) (rg 13 ae ae (λh=>by cases h) (λ_=>?_));refine fj ae ae ae ae ae (EH (a.den:Int)) (re ae (ax ae (λh=>?_) (λ_=>aC (ai ?_))))
 ·exfalso;have h:cN (a.den:Int)<1:=a9 h;unfold cN at h;split at h
  ·omega
  ·split at h<;>omega
 have hg:=Zc a.num (a.den:Int) (ha.n.sm af) (ha.d.sm af);have e:Int.gcd a.num (a.den:Int)=1:=a.reduced;rw[e]at hg;refine rb (rc ae ae hg (rc ae ae (Ch 1 ak ak) (rc ae ae (YQ ((1:Nat):Int) 1) (re ae (aF (aL ar ae (au.refl _)))))))
def agc(xs:List Rat)(hl:xs.length≤1000000):aG Tryz.prog 179 [cS .q xs] (cS .q (eo xs)):=by
 refine aX Tryz.func179 ae ae ae ae ae ak ?_;refine rr ae (rr ae ?_);refine aj (aH (bA (α:=Nat) (λk=>⟨[(0,cS .q xs),(3,cI k)],[],2,[]⟩) (λk=>k≤xs.length∧iS xs k=iS xs xs.length) (λk=>k) xs.length ⟨bD _,ae⟩ bY ?_));rintro k ⟨hk,iR⟩;have fin:iS xs k=k→au (cS .q (List.take k xs)) (cS .q (eo xs)):=λe=>by refine au.of_eq ?_;unfold eo;rw[←iR,e]
 refine aj (rb ?_);refine rg 8 ae ae (λh=>?_) (λh=>?_)
 ·have h:0<k:=by have h:(k:Int)>0:=a9 h;omega
  obtain⟨j,rfl⟩:∃j,k=j+1:=⟨k-1,by omega⟩;have ej:(((j+1:Nat):Int)-1).toNat=j:=af;refine fj ae ae ae ae ae (HV (xs.getD (((j+1:Nat):Int)-1).toNat 0)) (re ae ?_) (hp:=jT);refine ax ae (λh2=>?_) (λh2=>?_)
  ·have h2:(xs.getD j 0).num=0:=by have h2:cN (xs.getD (((j+1:Nat):Int)-1).toNat 0).num=0:=eq_of_beq h2;rw[ej]at h2;exact uD.1 h2
   refine aC (ai (aH (rt ae (a6 (a8 j ⟨by omega,?_⟩ po (wk ⟨sR ae,sE ae ?_,ah⟩ ah))) (hp:=jT))))
   ·rw[←iR,iS,aw h2]
   ·exact ay (λz=>AV.c (C.I .i64 z)) (show((j+1:Nat):Int)-1=(j:Int)by omega)
  ·have h2:(xs.getD j 0).num≠0:=by have h2:cN (xs.getD (((j+1:Nat):Int)-1).toNat 0).num≠0:=kU h2;rw[ej]at h2;exact λe=>h2 (uD.2 e)
   exact bh (bt (bq (bp (ai (rr ae (aF (aL ar ae (fin (by rw[iS,aq h2])))) (hp:=aN))))))
 ·have h:k=0:=by have h:¬(k:Int)>0:=bC h;omega
  subst h;exact re ae (ax ae (λh2=>by cases h2) (λ_=>bh (bt (bq (bp (ai (rr ae (aF (aL ar ae (fin ae))) (hp:=aN))))))))
def agd(a:List Rat)(i:Nat):aG Tryz.prog 178 [cS .q a,cI i] (aQ (a.getD i 0)):=by
 refine aX Tryz.func178 ae ae ae ae ae ak ?_;refine rr ae (aj (rr ae (ax ae (λh=>?_) (λh=>?_))))
 ·have h:i<a.length:=by have h:(i:Int)<(a.length:Int):=a9 h;omega
  refine rr ae (hp:=aN) (aF (bS (aL ar ae (au.of_eq ?_))));rfl
 ·have h:¬i<a.length:=by have h:¬(i:Int)<(a.length:Int):=bC h;omega
  refine aC (ai (rb (rc ae ae (EM 0 ak ak) (re ae (aF (aL ar ae (au.of_eq ?_)))))));rw[Rx.kY a af];rfl
def arU(xs:List Rat)(hl:xs.length≤1000000):Fj Tryz.prog 179 [.c (.X 2002000)] [(2002000,.vec 46 .q xs)] (cS .q (eo xs)):=by
 refine aau 3 Tryz.func179 ae ae ae (λid al=>by rw[jJ.1 al];decide) (eQ.of ae) ae ak ?_;refine dy (oP 2002000 ae) ?_;refine rr ae (rr ae ?_);refine aj (aH (bA (α:=Nat) (λk=>⟨[(0,cS .q xs),(3,cI k)],[],5,[]⟩) (λk=>k≤xs.length∧iS xs k=iS xs xs.length) (λk=>k) xs.length ⟨bD _,ae⟩ bY ?_));rintro k ⟨hk,iR⟩;have fin:iS xs k=k→au (cS .q (List.take k xs)) (cS .q (eo xs)):=λe=>by refine au.of_eq ?_;unfold eo;rw[←iR,e]
 refine aj (rb ?_);refine rg 8 ae ae (λh=>?_) (λh=>?_)
 ·have h:0<k:=by have h:(k:Int)>0:=a9 h;omega
  obtain⟨j,rfl⟩:∃j,k=j+1:=⟨k-1,by omega⟩;have ej:(((j+1:Nat):Int)-1).toNat=j:=af;refine fj ae ae ae ae ae (HV (xs.getD (((j+1:Nat):Int)-1).toNat 0)) (re ae ?_) (hp:=jT);refine ax ae (λh2=>?_) (λh2=>?_)
  ·have h2:(xs.getD j 0).num=0:=by have h2:cN (xs.getD (((j+1:Nat):Int)-1).toNat 0).num=0:=eq_of_beq h2;rw[ej]at h2;exact uD.1 h2
   refine aC (ai (aH (rt ae (a6 (a8 j ⟨by omega,?_⟩ po (wk ⟨sR ae,sE ae ?_,ah⟩ ah))) (hp:=jT))))
   ·rw[←iR,iS,aw h2]
   ·exact ay (λz=>AV.c (C.I .i64 z)) (show((j+1:Nat):Int)-1=(j:Int)by omega)
  ·have h2:(xs.getD j 0).num≠0:=by have h2:cN (xs.getD (((j+1:Nat):Int)-1).toNat 0).num≠0:=kU h2;rw[ej]at h2;exact λe=>h2 (uD.2 e)
   exact bh (bt (bq (bp (ai (rr ae (aF (SZ ar ae (fin (by rw[iS,aq h2])))) (hp:=aN))))))
 ·have h:k=0:=by have h:¬(k:Int)>0:=bC h;omega
  subst h;exact re ae (ax ae (λh2=>by cases h2) (λ_=>bh (bt (bq (bp (ai (rr ae (aF (SZ ar ae (fin ae))) (hp:=aN))))))))
def uP(a:List Rat):List Rat:=eo (0::a)
def arV(a:List Rat)(la:a.length≤1000):aG Tryz.prog 117 [cS .q a] (cS .q (uP a)):=by
 refine aX Tryz.func117 ae ae ae ae ae ak ?_;refine rr ae (rb (rc ae ae (EM 0 ak ak) (yr .q [((0:Int):Rat)] ae ae (re ae ?_))));refine rb (ra ae ae ae ae ae ae ae ae ae ?_ ?_ (rcc (conc:=[]) (fm:=[(2002000,.vec 46 .q (((0:Int):Rat)::a))]) ae ae (arU _ Kj) (λid b h=>rfl) (re ae (aF (aL ar ae (au.refl _))))))
 ·show(1+a.length+(1+a.length)/4+192)*64≤_;omega
 ·show(1+a.length)*4≤_;omega
def J6(a b:List Rat):List Rat:=eo ((List.range (max a.length b.length)).map λi=>a.getD i 0+b.getD i 0)
def sB(c:Rat)(b:List Rat):List Rat:=eo ((List.range b.length).map λi=>c*b.getD i 0)
def age(f:Nat→Rat)(i:Nat):(List.range (i+1)).map f=(List.range i).map f++[f i]:=by rw[qk,eh];rfl
def arW{k:Nat}(c:Rat)(b:List Rat)(lb:b.length≤1000)(hc:QS k c)(hb:∀i,QS k (b.getD i 0))(hk:k≤100000000000):aG Tryz.prog 118 [aQ c,cS .q b] (cS .q (sB c b)):=by
 refine aX Tryz.func118 ae ae ae ae ae ak ?_;refine rr ae (rb (yr .q [] ae ae (re ae (aj (rr ae ?_)))));refine aH (bA (α:=Nat) (λi=>⟨[(1,cS .q b),(2,.c (.P 0 0)),(5,.c (.X 1000000)),(6,cI i)],[(0,.box 46 0 (av .q c)),(1000000,.vec 46 .q ((List.range i).map λi=>c*b.getD i 0))],10,[]⟩) (λi=>i≤b.length) (λi=>b.length-i) 0 (bK _) (wk ⟨sR ae,sR ae,sR ae,sE ae ae,ah⟩ ⟨bR ae,bR ae,ah⟩) ?_);intro i hi;have tj:((List.range i).map λi=>c*b.getD i 0).length=i:=be;refine aj (rr ae (ax ae (λh=>?_) (λh=>?_)))
 ·have h:i<b.length:=by have h:(i:Int)<(b.length:Int):=a9 h;omega
  have ei:((i:Int)).toNat=i:=bu i;have Aj:=arQ c (b.getD ((i:Int)).toNat 0) hc (hb _) hk;refine aC (ai (aj (aH (cK ?_))));refine rc ae ae Aj ?_ (hp:=aN);refine rl .q [c*b.getD ((i:Int)).toNat 0] ae ae (ra ae ae ae ae ae ae ae ae ae ?_ ?_ (re ae (a6 (ai (rt ae (hp:=aN) (a8 (i+1) h (by show b.length-(i+1)<b.length-i;omega) (Wk.trans (wk (st':=⟨[(1,cS .q b),(2,.c (.P 0 0)),(5,.c (.X 11008000)),(6,cI (i+1:Nat))],[(0,.box 46 0 (av .q c)),(11008000,.vec 46 .q ((List.range (i+1)).map λi=>c*b.getD i 0))],13,[]⟩) ⟨sR ae,sR ae,sR ae,sR ae,ah⟩ ⟨bR ae,bE ae ?_,ah⟩) (Wk.trans (qI 1000000 11008000 ae ae ae) bY))))))))
  ·show(((List.range i).map λi=>c*b.getD i 0).length+1+(((List.range i).map λi=>c*b.getD i 0).length+1)/4+192)*64≤_;omega
  ·show(((List.range i).map λi=>c*b.getD i 0).length+1)*4≤_;omega
  ·rw[age,ei]
 ·have h:i=b.length:=by have h:¬(i:Int)<(b.length:Int):=bC h;omega
  subst h;exact bh (bt (bq (bp (ai (dy (oP 1000000 ae) (rb (rc ae ae (agc _ af) (re ae (aF (aL ar ae (au.refl _)))))))))))
def arX{k:Nat}(a b:List Rat)(la:a.length≤1000)(lb:b.length≤1000)(ha:∀i,QS k (a.getD i 0))(hb:∀i,QS k (b.getD i 0))(hk:k≤100000000000):aG Tryz.prog 116 [cS .q a,cS .q b] (cS .q (J6 a b)):=by
 refine aX Tryz.func116 ae ae ae ae ae ak ?_;refine rr ae (rb (yr .q [] ae ae (re ae (aj (rr ae ?_)))));obtain⟨M,hM⟩:∃M,M=max a.length b.length:=⟨_,ae⟩;have hMi:(if(a.length:Int)<(b.length:Int)then(b.length:Int)else(a.length:Int))=(M:Int):=by rw[hM];split<;>omega
 refine aH (bA (α:=Nat) (λi=>⟨[(0,cS .q a),(1,cS .q b),(5,.c (.X 1000000)),(6,cI i)],[(1000000,.vec 46 .q ((List.range i).map λi=>a.getD i 0+b.getD i 0))],10,[]⟩) (λi=>i≤M) (λi=>M-i) 0 (bK _) (wk ⟨sR ae,sR ae,sR ae,sE ae ae,ah⟩ ⟨bR ae,ah⟩) ?_);intro i hi;have tj:((List.range i).map λi=>a.getD i 0+b.getD i 0).length=i:=be;refine aj (rr ae (ax ae (λh=>?_) (λh=>?_)))
 ·have h:i<M:=by have h:(i:Int)<_:=a9 h;rw[aw ae]at h;split at h<;>omega
  have J7:=arR (a.getD i 0) (b.getD i 0) (ha i) (hb i) hk;refine aC (ai (aj (aH (cK ?_))));refine rc ae ae (agd a i) (rc ae ae (agd b i) (rc ae ae J7 ?_));refine rl .q [a.getD i 0+b.getD i 0] ae ae (ra ae ae ae ae ae ae ae ae ae ?_ ?_ (re ae (a6 (ai (rt ae (hp:=aN) (a8 (i+1) h Gp (Wk.trans (wk (st':=⟨[(0,cS .q a),(1,cS .q b),(5,.c (.X 11009000)),(6,cI (i+1:Nat))],[(11009000,.vec 46 .q ((List.range (i+1)).map λi=>a.getD i 0+b.getD i 0))],13,[]⟩) ⟨sR ae,sR ae,sR ae,sR ae,ah⟩ ⟨bE ae ?_,ah⟩) (Wk.trans (qI 1000000 11009000 ae ae ae) bY))))))))
  ·show(((List.range i).map λi=>a.getD i 0+b.getD i 0).length+1+(((List.range i).map λi=>a.getD i 0+b.getD i 0).length+1)/4+192)*64≤_;omega
  ·show(((List.range i).map λi=>a.getD i 0+b.getD i 0).length+1)*4≤_;omega
  ·rw[age]
 ·have h:i=M:=by have h:¬(i:Int)<_:=bC h;rw[aw ae]at h;split at h<;>omega
  subst h;subst hM;exact bh (bt (bq (bp (ai (dy (oP 1000000 ae) (rb (rc ae ae (agc _ af) (re ae (aF (aL ar ae (au.refl _)))))))))))
def OW(l:List Rat)(i:Nat):(eo l).getD i 0=l.getD i 0:=by have:=ay (λA:Rx=>A i) (Rx.wg l);exact this
def agf(f:Nat→Rat)(n i:Nat):((List.range n).map f).getD i 0=if i<n then f i else 0:=by
 rw[aU,kc];by_cases h:i<n
 ·rw[oI h,aw h];rfl
 ·rw[nn cT,aq h];rfl
def agh(a b:List Rat)(i:Nat):(J6 a b).getD i 0=a.getD i 0+b.getD i 0:=by
 rw[J6,OW,agf];split
 ·rfl
 ·rw[Rx.kY a af,Rx.kY b af,rF]
def VU(c:Rat)(b:List Rat)(i:Nat):(sB c b).getD i 0=c*b.getD i 0:=by
 rw[sB,OW,agf];split
 ·rfl
 ·rw[Rx.kY b af,jA]
def agi(a:List Rat)(i:Nat):(uP a).getD i 0=(0::a).getD i 0:=OW _ i
def arY(a b:List Rat):Rx.lx (J6 a b)=Rx.lx a+Rx.lx b:=Rx.ext λi=>agh a b i
def arZ(c:Rat)(b:List Rat):Rx.lx (sB c b)=Rx.K c*Rx.lx b:=Rx.ext λi=>by rw[Rx.iE];exact VU c b i
def ar0(a:List Rat):Rx.lx (uP a)=Rx.X 1*Rx.lx a:=by rw[uP,Rx.wg,Rx.I',Rx.mK,Rx.zero_add]
def Gc(l:List Rat):(eo l).length≤l.length:=Ww
def jH(a b:List Rat):Nat→List Rat
 |0=>[]
 |j+1=>J6 (uP (jH a b j)) (sB (a.getD (a.length-1-j) 0) b)
def agj(a:List Rat){j:Nat}(h:j<a.length):a.drop (a.length-(j+1))=a.getD (a.length-1-j) 0::a.drop (a.length-j):=by rw[oH (show a.length-(j+1)<a.length by omega),show a.length-(j+1)+1=a.length-j by omega,aU,cr (show a.length-1-j<a.length by omega)];simp only[show a.length-(j+1)=a.length-1-j by omega];rfl
def OX(a b:List Rat):∀j,j≤a.length→Rx.lx (jH a b j)=Rx.lx (a.drop (a.length-j))*Rx.lx b
 |0,_=>by rw[jH,Bt,GI,Rx.xC,Rx.zero_mul]
 |j+1,h=>by rw[jH,arY,ar0,arZ,OX a b j af,agj a af,Rx.I',Rx.add_mul,Rx.mul_assoc,Rx.add_comm]
def agk(a b:List Rat)(j:Nat):Rx.cO (jH a b j):=by
 cases j with
 |zero=>exact Rx.Ja
 |succ j=>exact Rx.zd _
def agl(a b:List Rat):∀j,(jH a b j).length≤j+b.length
 |0=>by simp[jH]
 |j+1=>by
  have h1:=agl a b j;have h2:=Gc (0::jH a b j);have h3:(sB (a.getD (a.length-1-j) 0) b).length≤b.length:=by have:=Gc ((List.range b.length).map λi=>a.getD (a.length-1-j) 0*b.getD i 0);simpa[sB]using this
  have h4:=Gc ((List.range (max (uP (jH a b j)).length (sB (a.getD (a.length-1-j) 0) b).length)).map λi=>(uP (jH a b j)).getD i 0+(sB (a.getD (a.length-1-j) 0) b).getD i 0);rw[dM,Bk]at h4;rw[fv]at h2;have h5:(jH a b (j+1)).length≤max (uP (jH a b j)).length (sB (a.getD (a.length-1-j) 0) b).length:=h4;have h6:(uP (jH a b j)).length≤(jH a b j).length+1:=h2;omega
def agm{k:Nat}{a:List Rat}(hk:1≤k)(h:∀i,QS k (a.getD i 0))(i:Nat):QS k ((0::a).getD i 0):=by
 cases i with
 |zero=>exact QS.zero hk
 |succ i=>exact h i
def agn{k:Nat}{a b:List Rat}(ha:∀i,QS k (a.getD i 0))(hb:∀i,QS k (b.getD i 0)):∀j,∀i,QS (2^j*(2*k+2)-1) ((jH a b j).getD i 0)
 |0,i=>QS.zero af
 |j+1,i=>by
  have hp:1≤2^j:=nr ak;have hm:2*k+2≤2^j*(2*k+2):=by have:=eJ (2*k+2) hp;omega
  have h1:QS (2^j*(2*k+2)-1) ((uP (jH a b j)).getD i 0):=by rw[agi];exact agm af (agn ha hb j) i
  have h2:QS (2^j*(2*k+2)-1) ((sB (a.getD (a.length-1-j) 0) b).getD i 0):=by rw[VU];exact((ha _).mul (hb i)).le af
  rw[jH,agh];exact(h1.add h2).le (by rw[jl,ix (2^j) 2,zC];omega)
def ago{k:Nat}(hk:k≤100000)(a b:List Rat)(la:a.length≤12)(lb:b.length≤100)(ha:∀i,QS k (a.getD i 0))(hb:∀i,QS k (b.getD i 0)):aG Tryz.prog 44 [cS .q a,cS .q b] (cS .q (jH a b a.length)):=by
 refine aX Tryz.func44 ae ae ae ae ae ak ?_;have hQ:=agn ha hb;have hp:∀j,j≤12→2^j*(2*k+2)-1≤1000000000:=λj hj=>by have h1:2^j≤2^12:=jV ak hj;have h2:=eJ (2*k+2) h1;omega
 refine rr ae (rb (yr .q [] ae ae (re ae (aj (rr ae ?_)))));refine dy (oP 1000000 ae) ?_;refine aH (bA (α:=Nat) (λj=>⟨[(0,cS .q a),(1,cS .q b),(5,cS .q (jH a b j)),(6,cI ((a.length:Int)-1-j))],[],10,[]⟩) (λj=>j≤a.length) (λj=>a.length-j) 0 (bK _) (wk ⟨sR ae,sR ae,sE ae ae,sE ae ?_,ah⟩ ah) ?_)
 ·exact ay cI af
 intro j hj;refine aj (rr ae (ax ae (λh=>?_) (λh=>?_)))
 ·have h:j<a.length:=by have h:(a.length:Int)-1-(j:Int)≥0:=a9 h;omega
  have ei:((a.length:Int)-1-(j:Int)).toNat=a.length-1-j:=af;have hl:=agl a b j;have hpj:=hp j af;have Ct:1≤2^j:=nr ak;have hm:2*k+2≤2^j*(2*k+2):=by have:=eJ (2*k+2) Ct;omega
  have OD:=arW (k:=k) (a.getD ((a.length:Int)-1-(j:Int)).toNat 0) b af (ha _) hb af;have xx:(sB (a.getD ((a.length:Int)-1-(j:Int)).toNat 0) b).length≤b.length:=by have:=Gc ((List.range b.length).map λi=>a.getD ((a.length:Int)-1-(j:Int)).toNat 0*b.getD i 0);simpa[sB]using this
  have aub:(uP (jH a b j)).length≤(jH a b j).length+1:=by have:=Gc (0::jH a b j);rwa[fv]at this
  have J7:=arX (k:=2^j*(2*k+2)-1) (uP (jH a b j)) (sB (a.getD ((a.length:Int)-1-(j:Int)).toNat 0) b) af af (λi=>by rw[agi];exact agm af (hQ j) i) (λi=>by rw[VU];exact((ha _).mul (hb i)).le af) af;refine aC (ai (aj (aH (cK ?_))));refine rc ae ae (arV (jH a b j) af) ?_;refine rc ae ae OD ?_ (hp:=aN);refine rc ae ae J7 (re ae (a6 (ai (rt ae (hp:=aN) (a8 (j+1) h (by show a.length-(j+1)<a.length-j;omega) (wk ⟨sR ae,sR ae,sE ae ?_,sE ae ?_,ah⟩ ah))))))
  ·rw[ei];rfl
  ·exact ay cI af
 ·have h:j=a.length:=by have h:¬(a.length:Int)-1-(j:Int)≥0:=bC h;omega
  subst h;exact bh (bt (bq (bp (ai (rr ae (aF (aL ar ae (au.refl _))))))))
def tK(a:List Rat)(x:Rat):Nat→Rat
 |0=>0
 |j+1=>tK a x j*x+a.getD (a.length-1-j) 0
end Go.El
namespace Go.El
open Go Go.Proofs Rx
def rL(fs:List (List Rat×Int)):List Rat:=jg 0 fQ (iI fs) ((iI fs).length-1)
def VV(fs:List (List Rat×Int)):(rL fs).Perm (iI fs):=by
 unfold rL;cases e:iI fs with
 |nil=>exact zB _
 |cons x l=>exact I1 _ _ Kj
def J8(r:Rat):lx [-r,1]=X 1-K r:=by rw[I',Nq,l7,mul_one,AE,sub_def,add_comm]
def VW(r:Rat):sz (X 1-K r)=2:=by rw[←J8,dK (.inr Pk)];rfl
def ar1(r:Rat):Mo (X 1-K r):=by rw[Mo,VW,←J8];rfl
def agp(r:Rat):cj (X 1-K r):=ae0 (VW r)
def OY{q:List Rat}(h:q.length=2)(h1:q.getD (q.length-1) 0=1):q=[q.getD 0 0,1]:=by
 match q,h with
 |[c,d],_=>
  have h1:d=1:=h1
  rw[h1];rfl
def ar2{a:List Rat}(h0:a≠[])(D:Rx)(hc:cO a):D∣lx (c9 a)↔D∣lx a:=by obtain⟨h1,h2⟩:=wh a;exact⟨λh=>dvd_trans h (h2 hc),λh=>dvd_trans h h1⟩
def VX{Q:Rx}(hQ:cj Q):∀{l:List (List Rat×Int)},Q∣eO l→∃x∈l,Q∣lx x.1
 |[],h=>absurd h hQ.xq
 |x::l,h=>by
  rw[eO]at h;rcases hQ.r6 h with e|e
  ·exact⟨x,by simp,(hQ.pk e).2⟩
  ·obtain⟨y,h1,h2⟩:=VX hQ e;exact⟨y,by simp[h1],h2⟩
def agq{x:List Rat×Int}(h2:x.1.length=2):∀{l:List (List Rat×Int)},x∈l→-(x.1.getD 0 0)∈iI l
 |y::l,h=>by
  rw[iI];rcases dC.1 h with rfl|h
  ·rw[aw h2];simp
  ·exact j9 _ (agq h2 h)
section
variable{a:List Rat}{fs:List (List Rat×Int)}
def ar3(hc:cO a)(h0:a≠[])(h:mq a fs)(r:Rat):r∈rL fs↔X 1-K r∣lx a:=by
 rw[(VV fs).mem_iff,←ar2 h0 _ hc,←h.prod];constructor
 ·intro hr;obtain⟨x,hx,h2,rfl⟩:=J5 hr;obtain⟨o1,o2,o3⟩:=h.ok x hx;have e:=OY h2 o1;have:=J3 hx o3;rw[e]at this;rwa[←J8,GO]
 ·intro hd;obtain⟨x,hx,h2⟩:=VX (agp r) hd;obtain⟨o1,o2,o3⟩:=h.ok x hx;obtain⟨c1,c2⟩:=uO o1;have e:=(agp r).eq o2 (ar1 r) c2 h2;rw[←J8]at e;have e2:=Jb (.inr Pk) c1 e;have:=agq (x:=x) (by rw[←e2];rfl) hx;rw[←e2]at this;have e3: -([-r,1]:List Rat).getD 0 0=r:=by show- -r=r;exact GO r
  rwa[e3]at this
def agr:∀{l:List (List Rat×Int)},(∀x∈l,x.1.getD (x.1.length-1) 0=1)→l.Pairwise (λx y=>x.1≠y.1)→(iI l).Nodup
 |[],_,_=>List.Pairwise.nil
 |x::l,h,hp=>by
  obtain⟨p1,p2⟩:=jW.1 hp;have ih:=agr (λy hy=>h y oG) p2;rw[iI];split
  ·rename_i h2;refine Bm.2 ⟨λhm=>?_,ih⟩;obtain⟨y,y1,y2,y3⟩:=J5 hm;refine p1 y y1 ?_;rw[OY h2 (h x be),OY y2 (h y (by simp[y1]))];have:x.1.getD 0 0=y.1.getD 0 0:=by rw[←GO (x.1.getD 0 0),y3,GO]
   rw[this]
  ·exact ih
def ags(h:mq a fs):(rL fs).Nodup:=(VV fs).nodup_iff.2 (agr (λx hx=>(h.ok x hx).1) h.so)
def ar4(h:mq a fs){t:Nat}(ht:t+1<(rL fs).length):(rL fs).getD t 0<(rL fs).getD (t+1) 0:=by
 have hl:(rL fs).length=(iI fs).length:=by unfold rL;rw[AQ]
 have ha:=TQ (d:=(0:Rat)) afY (iI fs) ((iI fs).length-1) af t af;have ha:0≤fQ ((rL fs).getD (t+1) 0) ((rL fs).getD t 0):=ha;have hn:(rL fs).getD t 0≠(rL fs).getD (t+1) 0:=by have:=Kq.1 (ags h) t (t+1) af ht af;rw[aU,cr af,aU,cr ht];exact this
 have h1:¬(rL fs).getD (t+1) 0<(rL fs).getD t 0:=λbr=>by rw[fQ,aw br]at ha;omega
 exact Rat.lt_of_le_of_ne (Rat.not_lt.1 h1) hn
def agt{α:Type}:∀{l m:List α},l.Nodup→(∀x∈l,x∈m)→l.length≤m.length
 |[],_,_,_=>bK _
 |x::l,m,hn,hs=>by
  obtain⟨n1,n2⟩:=Bm.1 hn;obtain⟨s,t,rfl⟩:=Bi (hs x be);have:=agt (m:=s++t) n2 λy hy=>by
   have h1:=hs y oG;rcases b6.1 h1 with h1|h1
   ·exact fS _ h1
   ·rcases dC.1 h1 with h1|h1
    ·exact absurd (h1▸hy) n1
    ·exact j9 _ h1
  simp only[kA,fv]at this⊢;omega
def agu(a:List Rat)(x:Rat):∀j,j≤a.length→∃Q,lx (a.drop (a.length-j))=Q*(X 1-K x)+K (tK a x j)
 |0,_=>⟨0,by rw[Bt,GI,xC,tK,mK,zero_mul,zero_add]⟩
 |j+1,h=>by obtain⟨Q,hQ⟩:=agu a x j af;refine⟨X 1*Q+K (tK a x j),?_⟩;rw[agj a af,I',hQ,tK,qQ,gw,add_mul,mul_add,mul_sub (K (tK a x j)) (X 1) (K x),mul_comm (K (tK a x j)) (X 1)];have e:X 1*Q*(X 1-K x)=X 1*(Q*(X 1-K x)):=mul_assoc _ _ _;rw[e];generalize X 1*(Q*(X 1-K x))=A;generalize X 1*K (tK a x j)=B;generalize K (tK a x j)*K x=C;generalize K (a.getD (a.length-1-j) 0)=D;rw[sub_def];have:A+(B+ -C)+(C+D)=A+B+D+(C+ -C):=kN;rw[this,add_neg,add_zero];ac_rfl
def agv(a:List Rat)(x:Rat):tK a x a.length=0↔X 1-K x∣lx a:=by
 obtain⟨Q,hQ⟩:=agu a x a.length (bD _);rw[iw,uY]at hQ;constructor
 ·intro h;exact⟨Q,by rw[hQ,h,mK,add_zero]⟩
 ·intro hd;rw[hQ]at hd;have h1:=xk hd (dvd_mul_left _ _);have h2:=vK h1 (by rw[VW];have:=E6 (tK a x a.length);omega);exact Mt (h2.trans mK.symm)
end
def agw{a:List Rat}(hc:cO a)(h0:a≠[]){D B:Nat}(hD:0<D)(hz:∀i,∃z:Int,z.natAbs≤B∧((D:Nat):Rat)*a.getD i 0=(z:Rat)):∃c,c≤B∧CD c B (lx (c9 a)):=by
 have Ux:((D:Nat):Rat)≠0:=AS af;obtain⟨w,w1,w2⟩:=hz (a.length-1);have hl:=hc.ne h0;have hw:w≠0:=λe=>by
  rw[e]at w2;rcases DJ.1 w2 with e|e
  ·exact Ux e
  ·exact hl e
 have hinv:=oJ _ hl;refine⟨w.natAbs,w1,⟨by omega,λi=>?_⟩⟩;obtain⟨z,h1,h2⟩:=hz i;rw[Dg h0,iE,mR];rcases Int.lt_or_gt_of_ne hw with br|br
 ·refine⟨-z,by omega,?_⟩;have e:((w.natAbs:Nat):Rat)= -(w:Rat):=by rw[←uU,show((w.natAbs:Nat):Int)= -w by omega,PC]
  rw[e,PC,←h2,←w2];grind
 ·refine⟨z,h1,?_⟩;have e:((w.natAbs:Nat):Rat)=(w:Rat):=by rw[←uU,show((w.natAbs:Nat):Int)=w by omega]
  rw[e,←h2,←w2];grind
def agx{a:List Rat}(hc:cO a)(h0:a≠[])(l9:a.length≤9){D:Nat}(hD:0<D)(hDM:D≤2^22)(hz:∀i,∃z:Int,z.natAbs≤2^22∧((D:Nat):Rat)*a.getD i 0=(z:Rat)):ku a:=by
 have hle:∀{m:Nat},m≤2^22→m≤2^1500:=λh=>dF h (Rx.JU 1500 (k:=22) ak)
 obtain⟨c,c1,c2⟩:=agw hc h0 hD hz;refine⟨hc,h0,l9,⟨(D:Int),by omega,hle hDM,λi=>?_⟩,⟨c,22,22,c2,c1,by decide,by omega⟩⟩;obtain⟨z,h1,h2⟩:=hz i;exact⟨z,hle h1,h2⟩
def ar6(x:Int):(cf x).num.natAbs≤6∧((cf x).den=1∨(cf x).den=3):=by
 have h7:=RP x;unfold cf;split
 ·generalize x.tmod 7=t at h7;have h:t= -6∨t= -5∨t= -4∨t= -3∨t= -2∨t= -1∨t=0∨t=1∨t=2∨t=3∨t=4∨t=5∨t=6:=af;rcases h with h|h|h|h|h|h|h|h|h|h|h|h|h<;>subst h<;>decide+kernel
 ·refine⟨?_,.inl ae⟩;show(x.tmod 7).natAbs≤6;omega
def Gd(l:List Int)(most:Nat):(hJ l most).length≤most+1∧(∀i,((hJ l most).getD i 0).num.natAbs≤6)∧(∀i,((hJ l most).getD i 0).den=1∨((hJ l most).getD i 0).den=3)∧True:=by
 have Ng:∀i,((hJ l most).getD i 0).num.natAbs≤6∧(((hJ l most).getD i 0).den=1∨((hJ l most).getD i 0).den=3):=λi=>by
  rw[hJ,OW,aU,kc];cases(l.take (most+1))[i]? with
  |none=>exact⟨by decide,.inl ae⟩
  |some x=>exact ar6 x
 refine⟨?_,λi=>(Ng i).1,λi=>(Ng i).2,ah⟩;have:=Gc ((l.take (most+1)).map cf);rw[dM,fI]at this;unfold hJ;omega
def VY(l:List Int)(most:Nat)(i:Nat):∃z:Int,z.natAbs≤18∧((3:Nat):Rat)*(hJ l most).getD i 0=(z:Rat):=by
 obtain⟨_,h1,h2,_⟩:=Gd l most;have h1:=h1 i;have h2:=h2 i;generalize (hJ l most).getD i 0=r at*;have h3:=Nz r;rcases h2 with e|e
 ·refine⟨3*r.num,by omega,?_⟩;rw[e]at h3;rw[jz,←h3];show(3:Rat)*r=(3:Rat)*(1*r);grind
 ·refine⟨r.num,by omega,?_⟩;rw[e]at h3;exact h3
def VZ(l:List Int)(most:Nat):cO (hJ l most):=zd _
def J9{l:List Int}{most:Nat}(hm:most≤8)(h0:hJ l most≠[]):ku (hJ l most):=by
 refine agx (VZ l most) h0 (by have:=(Gd l most).1;omega) (D:=3) ak ak λi=>?_
 obtain⟨z,h1,h2⟩:=VY l most i;exact⟨z,dF h1 ak,h2⟩
def agy(l:List Int)(most:Nat)(i:Nat):QS 1 ((hJ l most).getD i 0):=by obtain⟨_,h1,h2,_⟩:=Gd l most;have h1:=h1 i;have h2:=h2 i;exact⟨aW.one af,aW.one af⟩
noncomputable def jS(u:List Rat):List (List Rat×Int)→Int
 |[]=>0
 |x::l=>if x.1=u then x.2 else jS u l
def tuQ{Q:Rx}(h:cj Q)(n:Nat):pk Q n≠0:=λe=>by have:=OI h.1 n;rw[e,kJ]at this;omega
def agz{Q R S:Rx}(hQ:cj Q){i k:Nat}(h:pk Q i*R=pk Q (i+(k+1))*S):Q∣R:=by
 have e:R*pk Q i=(pk Q (k+1)*S)*pk Q i:=by rw[mul_comm R,h,tn];ac_rfl
 rw[yO (tuQ hQ i) e];exact qU (dvd_mul_left _ _) _
def ar7{Q R S:Rx}(hQ:cj Q){i j:Nat}(h:pk Q i*R=pk Q j*S)(hR:¬Q∣R)(hS:¬Q∣S):i=j:=by
 rcases GB i j with c|c|c
 ·obtain⟨k,rfl⟩:∃k,j=i+(k+1):=⟨j-i-1,by omega⟩;exact absurd (agz hQ h) hR
 ·exact c
 ·obtain⟨k,rfl⟩:∃k,i=j+(k+1):=⟨i-j-1,by omega⟩;exact absurd (agz hQ h.symm) hS
def J'{u:List Rat}(h1:u.getD (u.length-1) 0=1)(hu:cj (lx u)):∀{l:List (List Rat×Int)},(∀x∈l,x.1.getD (x.1.length-1) 0=1∧cj (lx x.1)∧1≤x.2)→l.Pairwise (λx y=>x.1≠y.1)→∃R,eO l=pk (lx u) (jS u l).toNat*R∧¬lx u∣R
 |[],_,_=>⟨1,(mul_one _).symm,hu.xq⟩
 |x::l,h,hd=>by
  obtain⟨uc,um⟩:=uO h1;have key:∀y∈x::l,lx u∣lx y.1→y.1=u:=λy hy k=>by obtain⟨yc,ym⟩:=uO (h y hy).1;exact Jb yc uc (hu.eq (h y hy).2.1 um ym k).symm
  obtain⟨d1,d2⟩:=jW.1 hd;by_cases e:x.1=u
  ·refine⟨eO l,by rw[eO,jS,aw e,e],λk=>?_⟩;obtain⟨y,hy,h2⟩:=VX hu k;exact d1 y hy (e.trans (key y oG h2).symm)
  ·obtain⟨R,r1,r2⟩:=J' h1 hu (λy hy=>h y oG) d2;refine⟨pk (lx x.1) x.2.toNat*R,by rw[eO,r1,jS,aq e];ac_rfl,λk=>?_⟩;rcases hu.r6 k with k|k
   ·exact e (key x be (hu.pk k).2)
   ·exact r2 k
def agA{x:List Rat×Int}:∀{l:List (List Rat×Int)},l.Pairwise (λx y=>x.1≠y.1)→x∈l→jS x.1 l=x.2
 |y::l,hd,h=>by
  obtain⟨d1,d2⟩:=jW.1 hd;rw[jS];rcases dC.1 h with rfl|h
  ·rw[aw ae]
  ·rw[aq (d1 x h)];exact agA d2 h
def agB{u:List Rat}:∀{l:List (List Rat×Int)},jS u l≠0→(u,jS u l)∈l
 |[],h=>absurd ae h
 |y::l,h=>by
  rw[jS]at h⊢;split at h
  ·rename_i e;rw[aw e,←e];simp
  ·rename_i e;rw[aq e];exact wB _ (agB h)
def Ge{u:List Rat}:∀{l:List (List Rat×Int)},(∀x∈l,1≤x.2)→0≤jS u l
 |[],_=>jB _
 |y::l,h=>by
  rw[jS];split
  ·have:=h y be;omega
  ·exact Ge λx hx=>h x kZ
def ar8{a b c:List Rat}(ha:cO a)(hb:cO b)(hc:cO c)(yI:a≠[])(eB:b≠[])(nE:c≠[])(h:lx c=lx a*lx b):lx (c9 c)=lx (c9 a)*lx (c9 b):=by
 refine(A9 hc nE).eq ((A9 ha yI).mul (A9 hb eB)) ?_ ?_
 ·have h1:=(wh c).2 hc;rw[h]at h1;exact dvd_trans h1 (xr (wh a).1 (wh b).1)
 ·have h1:=(wh c).1;rw[h]at h1;exact dvd_trans (xr ((wh a).2 ha) ((wh b).2 hb)) h1
def ar9{a b c:List Rat}{fa fb fc:List (List Rat×Int)}(Ha:mq a fa)(Hb:mq b fb)(Hc:mq c fc)(h:lx (c9 c)=lx (c9 a)*lx (c9 b)){u:List Rat}(h1:u.getD (u.length-1) 0=1)(hu:cj (lx u)):jS u fc=jS u fa+jS u fb:=by
 obtain⟨A,a1,a2⟩:=J' h1 hu Ha.ok Ha.so;obtain⟨B,b1,b2⟩:=J' h1 hu Hb.ok Hb.so;obtain⟨C,c1,c2⟩:=J' h1 hu Hc.ok Hc.so;have na:=Ge (u:=u) λx hx=>(Ha.ok x hx).2.2
 have nb:=Ge (u:=u) λx hx=>(Hb.ok x hx).2.2
 have nc:=Ge (u:=u) λx hx=>(Hc.ok x hx).2.2
 rw[←Hc.prod,←Ha.prod,←Hb.prod,a1,b1,c1]at h;have e:=ar7 (i:=(jS u fc).toNat) (j:=(jS u fa).toNat+(jS u fb).toNat) (R:=C) (S:=A*B) hu (by rw[h,tn];ac_rfl) c2 λk=>(hu.r6 k).elim a2 b2
 omega
def V0{a u:List Rat}{fa:List (List Rat×Int)}(Ha:mq a fa)(h1:u.getD (u.length-1) 0=1)(hu:cj (lx u))(hd:lx u∣lx (c9 a)):(u,jS u fa)∈fa:=by
 obtain⟨A,a1,a2⟩:=J' h1 hu Ha.ok Ha.so;refine agB λe=>a2 ?_
 rw[←Ha.prod,a1,e]at hd;have e1:pk (lx u) ((0:Int)).toNat*A=A:=one_mul A;rwa[e1]at hd
def jk:List (List Rat×Int)→Nat
 |[]=>0
 |x::l=>x.2.toNat*(x.1.length-1)+jk l
def agC{Q:Rx}(hQ:Q≠0):∀e,sz (pk Q e)=e*(sz Q-1)+1∧pk Q e≠0
 |0=>⟨by rw[pk,oY];omega,oh⟩
 |e+1=>by obtain⟨i1,i2⟩:=agC hQ e;have h1:=eH i2 hQ;have h2:=eP hQ;rw[pk];refine⟨?_,oX i2 hQ⟩;rw[fV,jb];omega
def agD:∀{l:List (List Rat×Int)},(∀x∈l,x.1.getD (x.1.length-1) 0=1)→sz (eO l)=jk l+1∧eO l≠0
 |[],_=>⟨by rw[eO,oY,jk],oh⟩
 |x::l,h=>by
  obtain⟨i1,i2⟩:=agD (l:=l) λy hy=>h y oG
  obtain⟨c,m⟩:=uO (h x be);obtain⟨j1,j2⟩:=agC m.ne x.2.toNat;have:=eH j2 i2;rw[dK c]at j1;rw[eO,jk];exact⟨by omega,oX j2 i2⟩
def mq.wt{a:List Rat}{fs:List (List Rat×Int)}(H:mq a fs)(hc:cO a):jk fs+1=a.length∨a=[]:=by
 by_cases h0:a=[]
 ·exact .inr h0
 ·left;have:=(agD λx hx=>(H.ok x hx).1).1;rw[H.prod,dK (uN a),JT hc]at this;exact this.symm
def ar'{A:Rx}(h:sz A=2):∃r,X 1-K r∣A:=by
 have h0:A≠0:=λe=>by rw[e,kJ]at h;omega
 obtain⟨c,hc,hm⟩:=T8 h0;obtain⟨a,a1,a2⟩:=kI (K c*A);have hs:sz (K c*A)=2:=by have:=eH (tq hc) h0;rw[ts hc]at this;omega
 rw[←a2]at hs hm;rw[dK a1]at hs;have e:=OY hs (VR a1 hm);refine⟨-(a.getD 0 0),T6 hc ?_⟩;rw[←J8,GO,←e,a2];exact dvd_refl _
def asa{q:List Rat}(hc:cO q)(h3:q.length=3)(h:∀r,tK q r 3≠0):cj (lx q):=by
 have hs:sz (lx q)=3:=by rw[dK hc,h3]
 refine⟨by omega,λA B e=>?_⟩;have h0:lx q≠0:=λe=>by rw[e,kJ]at hs;omega
 have hA:A≠0:=λk=>h0 (by rw[e,k,zero_mul])
 have hB:B≠0:=λk=>h0 (by rw[e,k,mul_zero])
 have h1:=eH hA hB;have h2:=eP hA;have h4:=eP hB;rw[←e,hs]at h1;by_cases k:sz A=2
 ·exfalso;obtain⟨r,hr⟩:=ar' k;refine h r ?_;have:=(agv q r).2 (by rw[e];exact qU hr B);rwa[h3]at this
 ·omega
def asb(x:Rat):0≤x*x:=by
 rcases Rat.le_total (a:=0) (b:=x)with h|h
 ·exact Rat.mul_nonneg h h
 ·have h1:0≤-x:=by grind
  have:=Rat.mul_nonneg h1 h1;rwa[Rat.neg_mul,Rat.mul_neg,GO]at this
def asc(k:Rat):Rx.cj (lx [k*k+1,-(k+k),1]):=by
 refine asa (Or.inr Pk) ae λr e=>?_
 have e:((0*r+1)*r+ -(k+k))*r+(k*k+1)=0:=e;have h:=asb (r-k);grind
abbrev Gf:C:= .V (.slice none 0 0)
def V1:aG Tryz.prog 72 [cS .q []] (.t [(true,[.B false,Gf,.B false,Gf]),(false,[Gf]),(false,[.I .i64 10])]):=by refine aX Tryz.func72 ae ae ae ae ae ak ?_;exact rr ae (aj (rr ae (ax ae (λ_=>rr ae (aF (bS (aL ar ae (au.refl _))))) (λh=>by cases h))))
def asd:aG Tryz.prog 24 [cS .q []] (cS .q []):=by
 refine aX Tryz.func24 ae ae ae ae ae ak ?_;refine rr ae (rb (rc ae ae V1 (re ae (rr ae (aj (rr ae ?_))))));refine aH (bA (α:=Unit) (λ_=>⟨[(6,.c (.X 20000000)),(15,cS UT []),(16,cI 0),(17,cI 0)],[(20000000,.vec 46 .q [])],30,[]⟩) (λ_=>True) (λ_=>0) () ah ?_ ?_)
 ·exact tv 20000000 46 .q ⟨.inr ⟨ae,ae⟩,.inl ⟨_,ae,au.nil UT⟩,.inl (sE ae ae),.inl (sE ae ae),ah⟩ ah ae (eQ.of ae)
 rintro- -;refine rr ae (aj (ax ae (λh1=>by cases h1) (λh1=>?_)));refine bh (bt (bq (bp (ai ?_))));refine rb (n9 20000000 ae (af7 (w:=20) ak [] ak (λx hx=>by cases hx)) ae ae (re ae ?_));exact dy (oP 20000000 ae) (rr ae (aF (aL ar ae (au.refl _))))
def ase:aG Tryz.prog 22 [cS .q []] (cB false):=by refine aX Tryz.func22 ae ae ae ae ae ak ?_;refine rr ae (rb (rc ae ae V1 (re ae ?_)));exact rb (rg 14 ae ae (λh=>by cases h) (λ_=>rg 19 ae ae (λh=>by cases h) (λ_=>re ae (aF (aL ar ae (au.refl _))))))
def agE:aG Tryz.prog 18 [cS .q []] (.a [.B false,Gf,.B false,Gf,Gf,.I .i64 10]):=by refine aX Tryz.func18 ae ae ae ae ae ak ?_;exact rr ae (rb (rc ae ae V1 (re ae (rr ae (aF (aL ar ae (au.refl _)))))))
def zh:∀l m,jk (l++m)=jk l+jk m
 |[],m=>by rw[wH,jk,eZ]
 |x::l,m=>by rw[mX,jk,jk,zh l m];omega
def zi:∀{l:List (List Rat×Int)},(∀x∈l,2≤x.1.length∧1≤x.2)→l.length≤jk l
 |[],_=>bD _
 |x::l,h=>by
  have ih:=zi (l:=l) λy hy=>h y oG
  obtain⟨h1,h2⟩:=h x be;have:=my (show 1≤x.2.toNat by omega) (show 1≤x.1.length-1 by omega);rw[jk,fv];omega
def mq.Dj{a:List Rat}{fs:List (List Rat×Int)}(H:mq a fs){x:List Rat×Int}(hx:x∈fs):2≤x.1.length∧1≤x.2:=by obtain⟨h1,h2,h3⟩:=H.ok x hx;have h4:=h2.1;rw[dK (uO h1).1]at h4;exact⟨h4,h3⟩
def V2{p:List Rat}(h1:p.getD (p.length-1) 0=1):lx (c9 p)=lx p:=by
 obtain⟨c,m⟩:=uO h1;have h0:p≠[]:=λe=>by rw[e]at h1;exact absurd h1 ak
 exact(A9 c h0).eq m ((wh p).2 c) (wh p).1
def asf{p:List Rat}{fs:List (List Rat×Int)}(H:mq p fs)(h1:p.getD (p.length-1) 0=1)(hi:cj (lx p)):fs=[(p,1)]:=by
 have hp:=V0 H h1 hi (by rw[V2 h1];exact dvd_refl _);have hw:jk fs+1=p.length:=(H.wt (uO h1).1).resolve_right λe=>by rw[e]at h1;exact absurd h1 ak
 have hb:=λx(hx:x∈fs)=>H.Dj hx
 generalize jS p fs=n at hp;obtain⟨s,t,rfl⟩:=Bi hp;obtain⟨b1,b2⟩:=hb (p,n) be;have w1:=zi (l:=s) λx hx=>hb x kZ
 have w2:=zi (l:=t) λx hx=>hb x kZ
 rw[zh,jk]at hw;simp only at b1 b2 hw;have h3:1*(p.length-1)≤n.toNat*(p.length-1):=eJ _ af;have hs:s=[]:=iu af;have ht:t=[]:=iu af;have hn:n=1:=by
  by_cases e:n=1
  ·exact e
  ·have h4:2*(p.length-1)≤n.toNat*(p.length-1):=eJ _ af;omega
 rw[hs,ht,hn];rfl
def agF{p:List Rat}(h:ku p)(h1:p.getD (p.length-1) 0=1)(hi:cj (lx p)):aG Tryz.prog 22 [cS .q p] (cB true):=by obtain⟨fs,f1,f2,f3,f4⟩:=VT h;rw[asf f1 h1 hi]at f4;refine aX Tryz.func22 ae ae ae ae ae ak ?_;refine rr ae (rb (rc ae ae f4 (re ae ?_)));exact rb (rg 14 ae ae (λ_=>rg 19 ae ae (λ_=>re ae (aF (aL ar ae (au.refl _)))) (λh=>by cases h)) (λh=>by cases h))
def OZ{a:List Rat}(h:ku a):∃fs,mq a fs∧fs.length≤8∧(∀x∈fs,wm 20 x)∧aG Tryz.prog 18 [cS .q a] (.a (av .q (a.getD (a.length-1) 0)++[.S UT fs,.I .i64 0])):=by obtain⟨fs,f1,f2,f3,f4⟩:=VT h;refine⟨fs,f1,f2,f3,?_⟩;refine aX Tryz.func18 ae ae ae ae ae ak ?_;exact rr ae (rb (rc ae ae f4 (re ae (rr ae (aF (aL ar ae (au.of_eq ae)))))))
end Go.El
namespace Go.El
open Go Go.Proofs
def ash{f:List Rat}(hc:Rx.cO f)(hf:f≠[]→ku f):∃R,aG Tryz.prog 24 [cS .q f] (cS .q R)∧(f≠[]→∀r,r∈R↔Rx.X 1-Rx.K r∣Rx.lx f)∧(f=[]→R=[])∧(∀t,t+1<R.length→R.getD t 0<R.getD (t+1) 0)∧R.length≤8∧(∀r∈R,QS 20 r)∧R.Nodup:=by
 by_cases h0:f=[]
 ·subst h0;exact⟨[],asd,λh=>absurd ae h,λ_=>rfl,λt ht=>absurd ht (zA _),bK _,λr hr=>(by cases hr),List.Pairwise.nil⟩
 ·obtain⟨fs,f1,f2,f3,f4⟩:=arO (hf h0);have hp:=VV fs;have hl:=OU fs;have hle:=hp.length_eq;refine⟨rL fs,f4,λ_ r=>ar3 hc h0 f1 r,λe=>absurd e h0,λt ht=>ar4 f1 ht,by omega,λr hr=>?_,ags f1⟩;obtain⟨x,h1,_,rfl⟩:=J5 (hp.mem_iff.1 hr);exact((f3 x h1).q 0).neg
end Go.El
namespace Go.El
open Go Go.Proofs Fx
noncomputable abbrev Dk{p:Nat}(H:bI p)(a:List Int):List (List Int×Int):=
 rh H (l5 p (a7 (md p a))).length (l5 p (a7 (md p a))) 1 []
noncomputable abbrev O0{p:Nat}(H:bI p)(a:List Int):List (List Int×Int):=mh (Dk H a) ((Dk H a).length-1)
def asi{p:Nat}(H:bI p)(jM:p≤2147483647)(a:List Int)(la:a.length≤10)(ha:∀i,0≤a.getD i 0)(h0:a7 (md p a)≠[])(hm:Mon p (l5 p (a7 (md p a))))(H6:(l5 p (a7 (md p a))).length≤10)(HI:(Dk H a).length≤12)(hxm:∀x∈Dk H a,x.1.length≤1000):aG Tryz.prog 12 [cS aM a,cU p] (.t [(false,[.S MT (O0 H a)]),(false,[.I .i64 0])]):=by
 refine aX Tryz.func12 ae ae ae ae ae ak ?_;have iN:=H.hp.1;have Eh:=H.le;have jo:(0:Int)<(p:Int):=af;have hc:bX p (a7 (md p a)):=nJ jo (Cp jo a);have hl:(a7 (md p a)).length≤a.length:=by have:=vJ (md p a);rwa[yF]at this
 refine rr ae (aj (rb (rc ae ae (Sk p H.hp jM) (re ae (ax ae (λh=>by cases h) (λ_=>aC (ai ?_)))))));refine rb (rc ae ae (Ss a p af af af ha) (re ae ?_));refine aj (rr ae (ax ae (λh=>?_) (λ_=>aC (ai ?_))))
 ·have h:((a7 (md p a)).length:Int)=0:=eq_of_beq h;exact absurd (iu af) h0
 refine rb (rc ae ae (ZS p H.hp af _ af hc) (w9 ae ae (amv H _ hm af) (re ae ?_)));refine rb (n9 4002000 ae (amL _ HI hxm) ae ae (re ae ?_));exact fY 4002000 ae ae ae (rr ae (aF (aL ar ae (au.refl _))))
def asl{p:Nat}{l l':List (List Int×Int)}(h:l.Perm l'):kM p l=kM p l':=by
 induction h with
 |nil=>rfl
 |cons x _ ih=>rw[kM,kM,ih]
 |swap x y l=>rw[kM,kM,kM,kM,←mul_assoc,←mul_assoc,mul_comm (pk (fx y.1) _)]
 |trans _ _ h1 h2=>rw[h1,h2]
def yW.perm{p:Nat}{F:Fx p}{l l':List (List Int×Int)}(h:yW p F l)(hp:l'.Perm l):yW p F l':=
 ⟨λx hx=>h.parts x (hp.mem_iff.1 hx),hp.symm.pairwise h.ds (λPZ e=>PZ e.symm),(asl hp).trans h.prod⟩
def xK(l:List (List Int×Int)):Nat:=(l.map λx=>(x.1.length-1)*x.2.toNat).sum
def agG{p:Nat}(H:bI p){Q:Fx p}(hQ:Q≠0):∀e,sz (pk Q e)=(sz Q-1)*e+1
 |0=>by rw[show pk Q 0=1 from ae,oY H,KK]
 |e+1=>by have h1:=eH H (tu H hQ e) (tu H hQ 1);rw[←tn,agG H hQ e,show pk Q 1=Q by rw[pk,pk,one_mul]]at h1;have:=eP H.pos hQ;rw[GK];omega
def V3{p:Nat}(H:bI p):∀l:List (List Int×Int),(∀x∈l,Mon p x.1)→kM p l≠0∧sz (kM p l)=xK l+1
 |[],_=>⟨oh H,oY H⟩
 |x::l,h=>by
  obtain⟨h1,h2⟩:=V3 H l (λy hy=>h y (wB _ hy));have hx:=h x (DE ..);have DX:(fx x.1:Fx p)≠0:=λe=>hx.ne (xo hx.c (vI H.pos) (e.trans og.symm))
  have hm:=eH H (tu H DX x.2.toNat) h1;refine⟨oX H (tu H DX _) h1,?_⟩;rw[agG H DX,dj hx.c,h2]at hm;rw[kM,show xK (x::l)=(x.1.length-1)*x.2.toNat+xK l from ae];omega
def asm{l:List (List Int×Int)}{x:List Int×Int}(h:x∈l):(x.1.length-1)*x.2.toNat≤xK l:=by
 induction l with
 |nil=>cases h
 |cons y l ih=>
  rw[show xK (y::l)=(y.1.length-1)*y.2.toNat+xK l from ae]
  rcases dC.1 h with rfl|h
  ·omega
  ·have:=ih h;omega
def asn{p:Nat}{l:List (List Int×Int)}(h:∀x∈l,Mon p x.1∧2≤x.1.length∧cj (fx x.1:Fx p)∧1≤x.2):l.length≤xK l:=by
 induction l with
 |nil=>exact bK _
 |cons y l ih=>
  have:=ih (λx hx=>h x (wB _ hx))
  obtain⟨_,h2,_,h4⟩:=h y (DE ..)
  rw[show xK (y::l)=(y.1.length-1)*y.2.toNat+xK l from ae,fv]
  have h5:1*1≤(y.1.length-1)*y.2.toNat:=my af af
  omega
def yW.bnd{p:Nat}(H:bI p){f:List Int}{l:List (List Int×Int)}(hf:Mon p f)(h:yW p (fx f) l):l.length+1≤f.length∧∀x∈l,Mon p x.1∧2≤x.1.length∧x.1.length≤f.length∧cj (fx x.1:Fx p)∧1≤x.2∧x.2+1≤(f.length:Int):=by have h1:=(V3 H l (λx hx=>(h.parts x hx).1)).2;rw[h.prod,dj hf.c]at h1;refine⟨by have:=asn h.parts;omega,λx hx=>?_⟩;obtain⟨k1,k2,k3,k4⟩:=h.parts x hx;have h2:=asm hx;have h3:(x.1.length-1)*1≤(x.1.length-1)*x.2.toNat:=lJ _ af;have h4:1*x.2.toNat≤(x.1.length-1)*x.2.toNat:=eJ _ af;exact⟨k1,k2,by omega,k3,k4,by omega⟩
def V4{a b:Int}(h:kX a b=0):a=b:=by unfold kX at h;split at h<;>(try split at h)<;>omega
def agI(a b:List Int):∀n,uC a b n=0→∀i,i<n→a.getD i 0=b.getD i 0
 |0,_,i,h=>by omega
 |n+1,h,i,hi=>by
  rw[uC]at h;split at h
  ·rename_i h2;exact absurd h h2
  ·rename_i h2;have h2:kX (a.getD n 0) (b.getD n 0)=0:=af;by_cases e:i=n
   ·subst e;exact V4 h2
   ·exact agI a b n h i af
def aso{a b:List Int}(h:lF a b=0):a=b:=by
 unfold lF at h;split at h
 ·rename_i h2;have:=V4 h;omega
 ·rename_i h2;have h2:a.length=b.length:=af;refine nV h2 λi h3 h4=>?_
  have:=agI a b _ h i h3;rwa[aU,cr h3,aU,cr h4]at this
def asp{xs:List (List Int×Int)}(hd:(mh xs (xs.length-1)).Pairwise λx y=>x.1≠y.1){t:Nat}(ht:t+1<xs.length):lF ((mh xs (xs.length-1)).getD t gh).1 ((mh xs (xs.length-1)).getD (t+1) gh).1<0:=by
 have h1:=abV xs (xs.length-1) af t af;have hl:=FE xs (xs.length-1);rw[abT]at h1;have h2:lF ((mh xs (xs.length-1)).getD t gh).1 ((mh xs (xs.length-1)).getD (t+1) gh).1≠0:=λe=>by have e:=aso e;rw[getM af,getM af]at e;exact Kq.1 hd t (t+1) af af af e
 omega
def agJ{a b:Nat}(h:a*b=1):a=1∧b=1:=by have e:=Nat.dvd_one.1 ⟨b,h.symm⟩;subst e;omega
def O1:dN 5:=⟨by decide,λd h1 h2=>by have h3:d≤2:=Nat.le_of_lt_succ (Nat.lt_of_not_le λh=>by have:=my h h;omega);have e:d=2:=af;subst e;decide⟩
def P5:bI 5:=⟨O1,by decide⟩
def uQ(a:List Int)(h:a7 (md 5 a)=a):bX 5 a:=by rw[←h];exact nJ ak (Cp ak _)
def Gg:Mon 5 [1,0,1]:=⟨uQ _ ae,by decide,ae⟩
def V5{q:List Int}(h:Mon 5 q)(h2:q.length=2):∃c:Nat,c<5∧q=[(c:Int),1]:=by
 match q,h2 with
 |[c,d],_=>
  have h1:d=1:=h.one
  have h3:=h.c.1 0
  have h4:0≤c∧c<5:=h3
  exact⟨c.toNat,by omega,by rw[h1,DD h4.1]⟩
def fx5{a b:List Int}(h:(fx [1,0,1]:Fx 5)=fx a*fx b):eD a b 5=[1,0,1]:=by have h1:(fx (eD a b ((5:Nat):Int)):Fx 5)=fx [1,0,1]:=(Ip a b).trans h.symm;exact xo (nK ak a b) (uQ _ ae) h1
def asq{p:Nat}(A:Fx p):pk A 2=A*A:=by show 1*A*A=_;rw[one_mul]
def V6{p:Nat}(A:Fx p):pk A 1=A:=by show 1*A=_;rw[one_mul]
def asr{xs:List (List Int×Int)}(h:yW 5 (fx [1,0,1]:Fx 5) xs)(ha:∀t,t+1<xs.length→lF (xs.getD t gh).1 (xs.getD (t+1) gh).1<0):xs=[([2,1],1),([3,1],1)]:=by
 have hw:=(V3 P5 xs λx hx=>(h.parts x hx).1).2;have hp:=h.prod;rw[hp,dj Gg.c]at hw;have hw:3=xK xs+1:=hw;obtain⟨b1,b2⟩:=h.bnd P5 Gg;have b1:xs.length+1≤3:=b1;match xs,b1 with
 |[],_=>exact absurd hw ak
 |[(q,n)],_=>
  exfalso
  obtain⟨c1,c2,c3,c4,c5,c6⟩:=b2 (q,n) be
  have hw:3=(q.length-1)*n.toNat+0+1:=hw
  have c3:q.length≤3:=c3
  have c6:n+1≤3:=c6
  simp only at c1 c2 c4 c5
  have hp:pk (fx q) n.toNat*1=(fx [1,0,1]:Fx 5):=hp
  rw[mul_one]at hp
  by_cases e:q.length=3
  ·have en:n.toNat=1:=by rw[e]at hw;omega
   rw[en,V6]at hp;rw[hp]at c4;have hm:(fx [1,0,1]:Fx 5)=fx [2,1]*fx [3,1]:=by rw[←Ip];rfl
   have s1:sz (fx [2,1]:Fx 5)=2:=dj (uQ _ ae);have s2:sz (fx [3,1]:Fx 5)=2:=dj (uQ _ ae);have:=c4.2 _ _ hm;omega
  ·have e:q.length=2:=by omega
   have en:n.toNat=2:=by rw[e]at hw;omega
   obtain⟨c,hc,rfl⟩:=V5 c1 e;rw[en,asq]at hp;have:=fx5 hp.symm;revert this;have:∀c:Fin 5,¬eD [((c:Nat):Int),1] [((c:Nat):Int),1] 5=[1,0,1]:=ak;exact this ⟨c,hc⟩
 |[(q,n),(r,m)],_=>
  obtain⟨c1,c2,c3,c4,c5,c6⟩:=b2 (q,n) be
  obtain⟨d1,d2,d3,d4,d5,d6⟩:=b2 (r,m) be
  have hw:3=(q.length-1)*n.toNat+((r.length-1)*m.toNat+0)+1:=hw
  simp only at c1 c2 c5 d1 d2 d5
  have h1:=my (show 1≤q.length-1 by omega) (show 1≤n.toNat by omega)
  have h2:=my (show 1≤r.length-1 by omega) (show 1≤m.toNat by omega)
  have e1:(q.length-1)*n.toNat=1:=af
  have e2:(r.length-1)*m.toNat=1:=af
  obtain⟨e3,e4⟩:=agJ e1
  obtain⟨e5,e6⟩:=agJ e2
  have en:n=1:=af
  have em:m=1:=af
  subst en em
  obtain⟨c,hc,rfl⟩:=V5 c1 af
  obtain⟨d,hd,rfl⟩:=V5 d1 af
  have hp:pk (fx [(c:Int),1]) 1*(pk (fx [(d:Int),1]) 1*1)=(fx [1,0,1]:Fx 5):=hp
  rw[mul_one,V6,V6]at hp
  have h3:=fx5 hp.symm
  have h4:=ha 0 (fT 1)
  have h4:lF [(c:Int),1] [(d:Int),1]<0:=h4
  have:∀c d:Fin 5,eD [((c:Nat):Int),1] [((d:Nat):Int),1] 5=[1,0,1]→lF [((c:Nat):Int),1] [((d:Nat):Int),1]<0→(c:Nat)=2∧(d:Nat)=3:=ak
  obtain⟨f1,f2⟩:=this ⟨c,hc⟩ ⟨d,hd⟩ h3 h4
  have f1:c=2:=f1
  have f2:d=3:=f2
  subst f1 f2
  rfl
 |_::_::_::_,b=>exact absurd b be
def ass:LiB 5 [1,0,1] [[2,1],[3,1]] 2 1:=by
 have hg:∀i,i<2→(([[2,1],[3,1]]:List (List Int)).getD i [])=[2,1]∧i=0∨(([[2,1],[3,1]]:List (List Int)).getD i [])=[3,1]∧i=1:=λi hi=>by
  match i,hi with
  |0,_=>exact .inl ⟨ae,ae⟩
  |1,_=>exact .inr ⟨ae,ae⟩
 refine⟨⟨⟨O1,by decide,by decide,λi hi=>?_,λi hi=>?_,λi hi=>?_,λi hi=>?_⟩,by decide,by decide,by decide,by decide,λi=>?_,by decide⟩,by decide,by decide,by decide,ae,λi hi=>?_,λi hi=>?_,λi hi=>?_,by decide⟩
 ·rcases hg i hi with⟨e,_⟩|⟨e,_⟩<;>rw[e]<;>exact uQ _ ae
 ·rcases hg i hi with⟨e,_⟩|⟨e,_⟩<;>rw[e]<;>decide
 ·rcases hg i hi with⟨e,_⟩|⟨e,_⟩<;>rw[e]<;>decide
 ·match i,hi with
  |0,_=>
   have e:dS 5 (λi=>([[2,1],[3,1]]:List (List Int)).getD i []) 0 2=[1]:=ak
   show gy _ (ps (dS 5 (λi=>([[2,1],[3,1]]:List (List Int)).getD i []) 0 2)) _
   rw[e]
   exact(Sr O1 ak (uQ [1] ae) (uQ [2,1] ae)).1 ak
  |1,_=>
   have e:dS 5 (λi=>([[2,1],[3,1]]:List (List Int)).getD i []) 1 2=[4]:=ak
   show gy _ (ps (dS 5 (λi=>([[2,1],[3,1]]:List (List Int)).getD i []) 1 2)) _
   rw[e]
   exact(Sr O1 ak (uQ [4] ae) (uQ [3,1] ae)).1 ak
 ·match i with
  |0=>exact aW.one ak
  |1=>exact aW.one ak
  |2=>exact aW.one ak
  |i+3=>exact aW.one (a:=0) ak
 ·rcases hg i hi with⟨e,_⟩|⟨e,_⟩<;>rw[e]<;>rfl
 ·match i,hi with
  |0,_=>exact⟨uQ [1] ae,by decide,by decide⟩
  |1,_=>exact⟨uQ [2,1] ae,by decide,by decide⟩
  |2,_=>exact⟨uQ [1,0,1] ae,by decide,by decide⟩
 ·match i,hi with
  |0,_=>decide
  |1,_=>decide
end Go.El
