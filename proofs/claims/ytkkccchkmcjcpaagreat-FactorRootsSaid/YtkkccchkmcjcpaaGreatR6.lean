/- Contracts: integers of the program: division. Own work; no condition. -/
import Derived.Test.YtkkccchkmcjcpaaGreatR5
import Derived.Test.YtkkccchkmcjcpaaGreatR3
set_option linter.defProp false
set_option linter.unusedVariables false
set_option linter.unusedSimpArgs false
set_option linter.unnecessarySimpa false
namespace Go.El
open Go Go.Proofs
def yk(m:Nat):aG Tryz.prog 234 [cS aE (ay m)] (cS aE (ay m)):=by have h:=wL (ay m);rwa[Pd]at h
def ajb{k n:Nat}(hn:(ay k).length=n+2){x s:Nat}(ex:(x:Int)=(ay k).getD (n+1) 0)(h1:2147483648≤x*2^s)(h2:x*2^s<4294967296)(hs:s≤31):
  ((k*2^s:Nat):Int)<4294967296^(n+2)∧(ay (k*2^s)).length=n+2∧2147483648≤(ay (k*2^s)).getD (n+1) 0:=by
 have hD:0<2^s:=mh ak
 have wy:(x+1)*2^s≤4294967296:=by
  have e:4294967296=2^(32-s)*2^s:=by rw[←oY,show 32-s+s=32 by omega]
  have:x<2^(32-s):=by rw[e]at h2;exact Nat.lt_of_mul_lt_mul_right h2
  rw[e];exact dY _ this
 generalize hDD:2^s=D at*
 have hv:=kV (ay k) (n+1)
 rw[np _ _ (show(ay k).length≤n+1+1 by omega),eT,←ex]at hv
 have l1:=nR (jQ (eH k) (n+1))
 rw[show((ay k).take (n+1)).length=n+1 by simp;omega]at l1
 have l0:=mi (jQ (eH k) (n+1))
 have hp:=jR (n+1)
 generalize val ((ay k).take (n+1))=k' at*
 have ajc:((x:Int)+1)*(D:Int)≤4294967296:=by have:(((x+1)*D:Nat):Int)≤((4294967296:Nat):Int):=af;rw[gq,ze]at this;exact this
 have zu:(2147483648:Int)≤(x:Int)*(D:Int):=by have:((2147483648:Nat):Int)≤((x*D:Nat):Int):=af;rw[gq]at this;exact this
 have kd:((k*D:Nat):Int)<4294967296^(n+2):=by
  rw[gq,qu,hv];have a1:(k'+(x:Int)*4294967296^(n+1))*D<(((x:Int)+1)*4294967296^(n+1))*D:=JN (by rw[lF,iY];omega) af;have a2:((x:Int)+1)*4294967296^(n+1)*D=4294967296^(n+1)*(((x:Int)+1)*D):=by generalize (4294967296:Int)^(n+1)=y;grind
  have a3:4294967296^(n+1)*(((x:Int)+1)*D)≤4294967296^(n+1)*4294967296:=ju ajc af;omega
 have hl:(ay (k*D)).length=n+2:=by have b1:(ay (k*D)).length≤n+2:=Be kd;have b2:=sU (m:=k) (k:=k*D) (FW _ hD);omega
 refine⟨kd,hl,?_⟩
 have sr:=kV (ay (k*D)) (n+1)
 rw[np _ _ (show(ay (k*D)).length≤n+1+1 by omega),eT]at sr
 have m1:=nR (jQ (eH (k*D)) (n+1))
 rw[show((ay (k*D)).take (n+1)).length=n+1 by simp;omega]at m1
 generalize (ay (k*D)).getD (n+1) 0=c1 at*
 generalize val ((ay (k*D)).take (n+1))=c' at*
 by_cases e:2147483648≤c1
 ·exact e
 ·exfalso;have e1:(c1+1)*4294967296^(n+1)≤(x:Int)*D*4294967296^(n+1):=jD af af;have e2:(x:Int)*4294967296^(n+1)*D≤(k:Int)*D:=jD af af;have e3:(x:Int)*4294967296^(n+1)*D=(x:Int)*D*4294967296^(n+1):=by generalize (4294967296:Int)^(n+1)=y;grind
  have e4:(c1+1)*4294967296^(n+1)=c1*4294967296^(n+1)+4294967296^(n+1):=JC;rw[gq]at sr;omega
set_option maxHeartbeats 8000000 in
def ajd(m k n:Nat)(hn:(ay k).length=n+2)(ri:k≤m)(lm:(ay m).length≤1099511627776):aG Tryz.prog 235 [cS aE (ay m),cS aE (ay k)] (.t [(false,[.S aE (ay (m/k))]),(false,[.S aE (ay (m%k))])]):=by
 refine aX Tryz.func235 ae ae ae ae ae ak ?_;have jl:=cZ (eH k) (n+1);have et:(ay k).getD (n+1) 0≠0:=by
  rcases uO k with e|e
  ·rw[e]at hn;simp at hn
  ·rw[hn]at e;exact e
 obtain⟨x,ex⟩:∃x:Nat,(x:Int)=(ay k).getD (n+1) 0:=⟨((ay k).getD (n+1) 0).toNat,F5 jl.1⟩;obtain⟨s,hlz,hs,x1,x2⟩:=ai2 x af af;obtain⟨f5,f6,f7⟩:=ajb hn ex x1 x2 hs;have hD:0<2^s:=mh ak;have hD2:2^s≤2^31:=jP ak hs;have Rj:(2:Int)^s=((2^s:Nat):Int):=be;have gM:0<k:=by
  rcases wb k with e|e
  ·subst e;rw[Dt]at hn;simp at hn
  ·exact e
 have Ef:n+2≤(ay m).length:=by rw[←hn];exact sU ri
 obtain⟨M,hM⟩:∃M,(ay m).length=M+(n+2):=⟨(ay m).length-(n+2),by omega⟩;have Q6:((m*2^s:Nat):Int)<4294967296^(M+(n+2)+1):=by have h1:=uP (n:=m);rw[hM]at h1;rw[qu,gq];have:=jR (M+(n+2));have h2:(m:Int)*((2^s:Nat):Int)≤(m:Int)*4294967296:=ju af af;omega
 have Ho:¬dn (m:Int) (k:Int)<0:=by unfold dn;rw[aq af];split<;>decide
 have YJ:=YG (ay m) s (eH m) hs lm;have nT:=(YG (ay k) s (eH k) hs af).fs;have Lk:=uP (n:=k);rw[hn]at Lk;rw[eT,hn,Rj,←gq]at nT;rw[eT,Rj,←gq,hM]at YJ;have hVt:(bY (n+2+1) ((k*2^s:Nat):Int)).take (n+2)=ay (k*2^s):=by have:=Ye (eH (k*2^s));rw[f6,eT]at this;rw[Ej,List.take_left' (tV _ _),this]
 refine rr ae (rb (rc ae ae (yk m) (rc ae ae (yk k) (re ae ?_))));refine aj (rb (rc ae ae (Eo m k) (re ae (ax ae (λh=>absurd (bc h) Ho) (λ_=>aC (ai ?_))))));refine aj (rr ae (ax ae (λh=>?_) (λ_=>aC (ai ?_))))
 ·exfalso;have h:((ay k).length:Int)=1:=eq_of_beq h;omega
 have a2:(((ay k).length:Int)-1).toNat=n+1:=af;have ajg:aG Tryz.prog 274 [cW ((ay k).getD (((ay k).length:Int)-1).toNat 0)] (cI s):=by rw[a2,←ex];exact hlz
 refine rr ae (rb (rc ae ae ajg (re ae (hp:=aR) ?_)));refine rb (wK ae ae YJ (re ae ?_));refine rb (rc ae ae nT (re ae (hp:=by simp only[Pr.an,Pr.h,num,aA,true_and,and_true];rw[tV];omega) ?_));refine rb (rm aE (M+1) ae ae ae ae ae ae (lN .u32) af ?_ ?_ (re ae ?_))
 ·show _*4≤_;omega
 ·show _*1≤_;omega
 generalize wN:bY (M+(n+2)+1) ((m*2^s:Nat):Int)=U0;have Hp:val U0=((m*2^s:Nat):Int):=by rw[←wN,Hm,iU af Q6]
 have Hq:bT U0:=by rw[←wN];exact Hl _ _
 have Q7:U0.length=M+(n+2)+1:=by rw[←wN,tV]
 have oG:(0:Int)<((k*2^s:Nat):Int):=by have:0<k*2^s:=zj gM hD;omega
 have Q8:vf ((m*2^s:Nat):Int) ((k*2^s:Nat):Int) (n+2) M (M+1,U0,List.replicate (M+1) 0):=by
  refine⟨bF _,Q7,Hq,?_,by simp,so _,λi hi=>?_,?_⟩
  ·show val (U0.drop (M+1))<_;have h1:=z6 U0 (M+1) af;have h2:=mi (jQ Hq (M+1));have hp:=jR (M+1);by_cases e:val (U0.drop (M+1))<((k*2^s:Nat):Int)
   ·exact e
   ·exfalso;have h3:4294967296^(M+1)*((k*2^s:Nat):Int)≤4294967296^(M+1)*val (U0.drop (M+1)):=ju af af;have h4:=J' (eH k) (uO k) (by intro e;rw[e]at hn;simp at hn);rw[eT,hn,show n+2-1=n+1 by omega]at h4;have h5:=uP (n:=m);rw[hM,show M+(n+2)=M+1+(n+1)by omega,Int.pow_add]at h5;have h6:4294967296^(M+1)*4294967296^(n+1)*((2^s:Nat):Int)≤4294967296^(M+1)*((k*2^s:Nat):Int):=by rw[gq,j5];exact ju (jD h4 af) af
    have h7:(m:Int)*((2^s:Nat):Int)<4294967296^(M+1)*4294967296^(n+1)*((2^s:Nat):Int):=JN h5 af;rw[Hp,gq m]at h1;omega
  ·show(List.replicate (M+1) (0:Int)).getD i 0=0;rw[aY,mM];split<;>rfl
  ·show _=val U0+_*val (List.replicate (M+1) 0);rw[wq,Hp];omega
 refine aj (rr ae ?_);refine aK (bA (α:=Nat×List Int×List Int) (λx=>⟨[(8,cI ((n+2:Nat):Int)),(9,cI s),(10,.c (.X 6002000)),(11,cS aE (ay (k*2^s))),(12,.c (.X 8005000)),(13,cI ((x.1:Int)-1))],[(6002000,.vec 23 aE x.2.1),(8005000,.vec 23 aE x.2.2)],10,[]⟩) (vf ((m*2^s:Nat):Int) ((k*2^s:Nat):Int) (n+2) M) (λx=>x.1) (M+1,U0,List.replicate (M+1) 0) Q8 (wk ⟨sE ae ?_,sR ae,sR ae,sE ae ?_,sR ae,sE ae ?_,ah⟩ ⟨bR ae,bR ae,ah⟩) ?_)
 ·exact az (λz=>AV.c (C.I .i64 z)) af
 ·refine az (λz=>AV.c (C.S aE z)) ?_;rw[←hVt];simp only[hn,bw,wi]
 ·exact az (λz=>AV.c (C.I .i64 z)) af
 rintro⟨c,U,Q⟩ hI;have iN:U.length=M+(n+2)+1:=hI.ul;have qk:bT U:=hI.ur;have rI:Q.length=M+1:=hI.ql;have hck:c≤M+1:=hI.k;refine aj (rr ae ?_);refine ax ae (λh=>?_) (λh=>?_)
 ·have h:(c:Int)-1≥0:=bc h;obtain⟨j,rfl⟩:∃j,c=j+1:=⟨c-1,by omega⟩;have ej:((j+1:Nat):Int)-1=(j:Int):=af;rw[ej];have z7:=hI.next oG f5;obtain⟨_,mU⟩:=hI.QZ f5;have YK:=ai' U (ay (k*2^s)) j n qk (eH _) f6 af af f7 (by rw[eT];exact mU);rw[eT]at YK;rw[show n+2+1=n+3 from ae]at z7 mU;have Q3:=mi (jQ (zq qk j) (n+3));have hqb:=xB Q3 (A8 oG);have asr:val ((U.drop j).take (n+3))/((k*2^s:Nat):Int)<4294967296:=C' oG (by rw[fc];exact mU);refine aC (ai (aj (aK ?_)));refine cG (X4 j (j+(n+3)) ae ae ae ae ae ae af af (by show j+(n+3)≤U.length;omega) ?_);rw[show j+(n+3)-j=n+3 by omega];refine nX 6002000 ae YK ae ae (re ae ?_);refine a7 (ai (rt ae (a8 (j,cV U j (bY (n+3) (val ((U.drop j).take (n+3))%((k*2^s:Nat):Int))),Q.set j (val ((U.drop j).take (n+3))/((k*2^s:Nat):Int))) z7 (fN j) (wk ⟨sR ae,sR ae,sR ae,sR ae,sR ae,sR ae,ah⟩ ⟨bR ae,bE ae ?_,ah⟩))));refine az (aJ.vec 23 aE) ?_;show Q.set (j:Int).toNat _=Q.set j _;rw[bw]
 ·have h:¬(c:Int)-1≥0:=bC h;have hc:c=0:=af;subst hc;obtain⟨e1,e2⟩:=hI.fin;have q1:a6 Q=ay (m/k):=by
   rw[pX hI.qr];show ay (val Q).toNat=_;rw[e1];have:((m*2^s:Nat):Int)/((k*2^s:Nat):Int)=((m/k:Nat):Int):=by rw[←A2,Nat.mul_div_mul_right _ _ hD]
   rw[this,bw]
  have hub:val U<((k*2^s:Nat):Int):=hI.ub;have hut:val (U.take (n+2))=val U:=by have h1:=z6 U (n+2) af;rw[Yl qk (n+2) af af,eo,nl]at h1;exact h1.symm
  have tW:=ai7 (U.take (n+2)) s (jQ qk _) hs y7;have q2:ay (val (U.take (n+2))/2^s).toNat=ay (m%k):=by
   rw[hut,e2,Rj];have:((m*2^s:Nat):Int)%((k*2^s:Nat):Int)/((2^s:Nat):Int)=((m%k:Nat):Int):=by rw[←Gb,Nat.mul_mod_mul_right,←A2,V6 _ hD]
   rw[this,bw]
  rw[q2]at tW;have ht:=wL Q;rw[q1]at ht;refine bp (bu (br (bq (ai (fS 6002000 ae ae ae (fS 8005000 ae ae ae ?_))))));refine rb (rc ae ae ht (rc ae ae tW (hp:=aR) (re ae (aF (aL ar ae (au.of_eq ?_))))));rfl
def YL(m k:Nat)(hk:k≠0)(lm:(ay m).length≤1099511627776):aG Tryz.prog 235 [cS aE (ay m),cS aE (ay k)] (.t [(false,[.S aE (ay (m/k))]),(false,[.S aE (ay (m%k))])]):=by
 by_cases ri:m<k
 ·refine aX Tryz.func235 ae ae ae ae ae ak ?_;refine rr ae (rb (rc ae ae (yk m) (rc ae ae (yk k) (re ae ?_))));refine aj (rb (rc ae ae (Eo m k) (re ae (ax ae (λ_=>?_) (λh=>?_)))))
  ·refine rb (rc ae ae (Ld (ay m) lm) (re ae (aF (bW (aL ar ae ?_)))));rw[Ga ri,q9 ri];exact au.t2 (au.nil aE)
  ·exfalso;have h:¬dn (m:Int) (k:Int)<0:=bC h;unfold dn at h;rw[aw af]at h;omega
 ·by_cases dL:k<4294967296
  ·refine aX Tryz.func235 ae ae ae ae ae ak ?_;have hw:ay k=[(k:Int)]:=by rw[xL hk,Ga dL,Dt,q9 dL]
   have Ho:¬dn (m:Int) (k:Int)<0:=by unfold dn;rw[aq af];split<;>decide
   have hd:=ai3 (ay m) (k:Int) (eH m) af af lm;rw[eT,←A2,←Gb,bw]at hd;have hc:=Eo m k;have ht:=yk k;rw[hw]at hc ht⊢;refine rr ae (rb (rc ae ae (yk m) (rc ae ae ht (re ae ?_))));refine aj (rb (rc ae ae hc (re ae (ax ae (λh=>absurd (bc h) Ho) (λ_=>aC (ai ?_))))));have Ll:aG Tryz.prog 273 [cS aE (ay m),.c (num .u64 (k:Int)).1] (.t [(false,[.S aE (ay (m/k))]),(false,[.I .u64 ((m%k:Nat):Int)])]):=by rw[show(AV.c (num .u64 (k:Int)).1)=cU (k:Int)from az (λz=>AV.c (C.I .u64 z)) (wrap_u64 _ af af)];exact hd
   have ast:=iq m (pT hk);refine aj (rr ae (ax ae (λ_=>?_) (λh=>by cases h)));refine rb (rc ae ae Ll (re ae ?_));refine rb (rc ae ae (Lc (m%k) af) (re ae (aF (bW (aL ar ae (au.refl _))))))
  ·have h1:2≤(ay k).length:=by
    by_cases e:2≤(ay k).length
    ·exact e
    ·exfalso;have h2:=uP (n:=k);have h3:=uQ (m:=(ay k).length) (n:=1) af;rw[Gg]at h3;omega
   exact ajd m k ((ay k).length-2) af af lm
def wP(a b:Int)(hb:b≠0)(ha:Sm a)(nT:Sm b):aG Tryz.prog 162 [aZ a,aZ b] (.t [(true,av .z (a/b)),(true,av .z (a%b)),(false,[.I .i64 0])]):=by
 refine aX Tryz.func162 ae ae ae ae ae ak ?_;have dm:b.natAbs≠0:=af;refine rr ae (aj (rb (rc ae ae (yk b.natAbs) (re ae ?_))));refine ax ae (λh2=>?_) (λh2=>?_)
 ·exfalso;have h2:((ay b.natAbs).length:Int)=0:=eq_of_beq h2;have:=m6.2 dm;omega
 ·refine aC (ai (rb (rc ae ae (YL _ _ dm ha) (re ae (aj (rb ?_))))));refine rg 26 ae ae (λh3=>?_) (λh3=>?_)
  ·have h3:a<0:=by simpa[bN]using h3
   refine re ae (ax ae (λh4=>?_) (λh4=>?_))
   ·have h4:a.natAbs%b.natAbs≠0:=by have h4:((ay (a.natAbs%b.natAbs)).length:Int)>0:=uH;exact m6.1 af
    obtain⟨e1,e2⟩:=QL (pT dm) h3 h4;have hz:bN a=true:=y5;obtain⟨e3,e4⟩:=yd a b (a.natAbs/b.natAbs+1) (b.natAbs-a.natAbs%b.natAbs) y6 e2;have hr:a.natAbs%b.natAbs<b.natAbs:=iq _ (pT dm);refine rb (rl aE [_] ae ae (rc ae ae (YB (a.natAbs/b.natAbs) 1 ?_ ak) (re ae (cG (rc ae ae (Rf b.natAbs _ af nT) (re ae (ai (rb ?_))))))))
    ·exact dG (sU (Df _ _)) ha
    refine rc ae ae (pq _ _) (rc ae ae (pq _ _) (re ae (aF (aL ar ae (au.of_eq ?_)))));rw[e3,e4];rfl
   ·have h4:a.natAbs%b.natAbs=0:=by have h4:¬((ay (a.natAbs%b.natAbs)).length:Int)>0:=uH;exact Decidable.byContradiction λaN=>by have:=m6.2 aN;omega
    obtain⟨e1,e2⟩:=QK (pT dm) h3 h4;have hz:bN a=true:=y5;obtain⟨e3,e4⟩:=yd a b (a.natAbs/b.natAbs) (a.natAbs%b.natAbs) y6 (by rw[e2,h4];rfl);refine aC (ai (rb (rc ae ae (pq _ _) (rc ae ae (pq _ _) (re ae (aF (aL ar ae (au.of_eq ?_))))))));rw[e3,e4];rfl
  ·have h3:¬a<0:=by simpa[bN]using h3
   refine re ae (ax ae (λh4=>by simp at h4) (λh4=>?_));obtain⟨e1,e2⟩:=QJ (pT dm) h3;have hz:bN a=false:=y5;obtain⟨e3,e4⟩:=yd a b (a.natAbs/b.natAbs) (a.natAbs%b.natAbs) y6 e2;refine aC (ai (rb (rc ae ae (pq _ _) (rc ae ae (pq _ _) (re ae (aF (aL ar ae (au.of_eq ?_))))))));rw[e3,e4];rfl
def Rk(m:Nat)(hm:m<18446744073709551616):aG Tryz.prog 255 [cS aE (ay m)] (cU m):=by
 refine aX Tryz.func255 ae ae ae ae ae ak ?_;have hl:=zZ hm;refine rr ae (rr ae (aj (rr ae ?_)));refine aK (bA (α:=Nat) (λi=>⟨[(0,cS aE (ay m)),(3,cU (val ((ay m).take i))),(6,cI (ay m).length),(7,cI i)],[],4,[]⟩) (λi=>i≤(ay m).length) (λi=>(ay m).length-i) 0 (bK _) ck ?_);intro i hi;have g:=cZ (eH m) i;have hs:=kV (ay m) i;have l1:=nR (jQ (eH m) i);have l0:=mi (jQ (eH m) i);refine rr ae (aj ?_);refine ax ae (λh=>?_) (λh=>?_)
 ·have h:i<(ay m).length:=by have h:(i:Int)<((ay m).length:Int):=bc h;omega
  have qc:((ay m).take i).length=i:=cO;rw[qc]at l1;refine aC (ai (aj (aK (rr ae (rt ae (hp:=aR) (a7 (ai (rt ae (a8 (i+1) h (by show(ay m).length-(i+1)<(ay m).length-i;omega) (wk ⟨sR ae,sE ae ?_,sR ae,sR ae,ah⟩ ah))))))))));refine az (λz=>AV.c (C.I .u64 z)) ?_;have aji:i=0∨i=1:=af;rcases aji with e|e
  ·subst e;have e1:((32:Int)*((0:Nat):Int))=((0:Nat):Int):=rfl;show IntKind.wrap .u64 ((BitVec.ofInt (IntKind.bits .u64) (val ((ay m).take 0))|||BitVec.ofInt (IntKind.bits .u64) (IntKind.wrap .u64 (IntKind.wrap .u64 ((ay m).getD 0 0)*2^(min (((0:Nat):Int)).toNat (IntKind.bits .u64))))).toNat:Int)=val ((ay m).take (0+1));rw[hs,wrap_u64 ((ay m).getD 0 0) af af,Aa _ 0 g.1 af af];have:=BT ((ay m).getD 0 0*2^0) 0 0 af (by simp[Int.emod_one]) ak ak af;rw[OZ];simp only[val];rw[BitVec.or_comm,this];simp
  ·subst e;show IntKind.wrap .u64 ((BitVec.ofInt (IntKind.bits .u64) (val ((ay m).take 1))|||BitVec.ofInt (IntKind.bits .u64) (IntKind.wrap .u64 (IntKind.wrap .u64 ((ay m).getD 1 0)*2^(min (((32:Nat):Int)).toNat (IntKind.bits .u64))))).toNat:Int)=val ((ay m).take (1+1));rw[Gg]at l1 hs;rw[hs,wrap_u64 ((ay m).getD 1 0) af af,Aa _ 32 g.1 af af];have:=BT ((ay m).getD 1 0*2^32) (val ((ay m).take 1)) 32 af (F8 _ _) l0 af af;rw[BitVec.or_comm,this,show(2:Int)^32=4294967296 from ae];omega
 ·have h:i=(ay m).length:=by have h:¬(i:Int)<((ay m).length:Int):=bC h;omega
  subst h;refine bp (bu (br (bq (ai (rr ae (aF (aL ar ae (au.of_eq (az (λz=>AV.c (C.I .u64 z)) ?_)))))))));rw[iV,eT]
def ajj(a:Int)(h0:0≤a)(h1:a<9223372036854775808):aG Tryz.prog 232 [aZ a] (.t [(false,[.I .i64 a]),(false,[.B true])]):=by
 refine aX Tryz.func232 ae ae ae ae ae ak ?_;have hn:a.natAbs<18446744073709551616:=af;have hl:=zZ hn;have hz:bN a=false:=by simp[bN];omega
 refine rr ae (aj (rr ae (ax ae (λh=>?_) (λ_=>aC (ai ?_)))))
 ·exfalso;have h:((ay a.natAbs).length:Int)>2:=bc h;omega
 refine rb (rc ae ae (Rk a.natAbs hn) (re ae ?_));refine aj (rr ae (ax ae (λh=>?_) (λ_=>aC (ai ?_))))
 ·rw[hz]at h;cases h
 refine aj (rr ae (ax ae (λh=>?_) (λ_=>aC (ai ?_))))
 ·exfalso;have e:decide (((a.natAbs:Nat):Int)≥9223372036854775808)=false:=kq af;rw[e]at h;cases h
 have hr: -9223372036854775808≤((a.natAbs:Nat):Int)∧((a.natAbs:Nat):Int)≤9223372036854775807:=af;refine rr ae (hp:=hr) (aF (aL ar ae (au.of_eq ?_)));exact az (λx=>AV.t [(false,[C.I .i64 x]),(false,[C.B true])]) af
def ajk(a:Int)(ha:Sm a):aG Tryz.prog 157 [aZ a] (cB true):=by
 refine aX Tryz.func157 ae ae ae ae ae ak ?_;have hlen:(ay a.natAbs).length≤1099511627776:=ha;have Xt:(cY a).length≤1099511627776:=ha;refine rr ae (rr ae (aj (rr ae (ax ae (λh=>?_) (λh=>aC (ai ?_))))))
 ·have h:((ay a.natAbs).length:Int)=0:=eq_of_beq h;have h0:a=0:=by have:¬0<(ay a.natAbs).length:=af;rw[m6]at this;omega
  subst h0;exact rr ae (aF (bW (aL ar ae (au.refl _))))
 ·have h:((ay a.natAbs).length:Int)≠0:=kN h;have oD:0<(cY a).length:=by show 0<(ay a.natAbs).length;omega
  refine rr ae (hp:=aR) (aF (aL ar ae (au.of_eq ?_)));have hc:=uO a.natAbs;refine az cB ?_;rcases hc with e|e
  ·rw[e]at h;simp at h
  ·show((ay a.natAbs).getD (((ay a.natAbs).length:Int)-1).toNat 0 !=0)=true;rw[show(((ay a.natAbs).length:Int)-1).toNat=(ay a.natAbs).length-1 by omega];simpa using e
def nB(a:List Int):Nat→Nat
 |0=>0
 |i+1=>nB a i+(a.getD i 0).natAbs
def ff(a:List Int):Nat:=nB a a.length*2^(a.length-1)
def ajl{a:Int}(h:cH a<0):a<0:=by unfold cH at h;split at h<;>first|assumption| (split at h<;>omega)
def ajm{a:Int}(h:a<0):cH a= -1:=by unfold cH;simp[h]
def wQ:Nat→Nat→Nat→Nat→Nat→Nat
 |0,r,_,_,_=>r
 |f+1,r,a,n,p=>if n=0 then r else wQ f (if n%2=1 then r*a%p else r) (a*a%p) (n/2) p
def Ae(a n p:Nat):Nat:=wQ 64 (1%p) (a%p) n p
def gW(a p:Nat):Nat:=Ae a (p-2) p
def YM:∀(f r a n p:Nat),0<p→r<p→wQ f r a n p<p
 |0,r,_,_,_,_,h=>h
 |f+1,r,a,n,p,hp,h=>by
  unfold wQ;split
  ·exact h
  ·refine YM f _ _ _ _ hp ?_;split
   ·exact iq _ hp
   ·exact h
def Rl(a n p:Nat)(hp:0<p):Ae a n p<p:=YM _ _ _ _ _ hp (iq _ hp)
def k7(x y:Nat):(x:Int).tmod (y:Int)=((x%y:Nat):Int):=by rw[qZ af];omega
def Hw(x y p:Nat)(hx:x<p)(hy:y<p)(hp:p≤4294967296):(IntKind.wrap .u64 ((x:Int)*(y:Int))).tmod (p:Int)=((x*y%p:Nat):Int):=by have h:x*y<18446744073709551616:=kl (Nat.mul_lt_mul'' hx hy) (dG (nk hp hp) ak);rw[←gq,wrap_u64 _ af af,k7]
def BU(x:Nat)(hx:x<18446744073709551616):(IntKind.wrap .u64 ((x:Int).tdiv 2))=((x/2:Nat):Int):=by
 have e:(x:Int).tdiv 2=((x/2:Nat):Int):=by rw[AU af];omega
 rw[e,wrap_u64 _ af af]
set_option maxHeartbeats 2000000 in
def Rm(a n p:Nat)(ha:a<18446744073709551616)(hn:n<18446744073709551616)(cK:0<p)(hp:p≤4294967296):aG Tryz.prog 180 [cU a,cU n,cU p] (cU (Ae a n p)):=by
 refine aX Tryz.func180 ae ae ae ae ae ak ?_;refine rr ae (aj (rr ae ?_));refine ax ae (λh=>?_) (λh=>?_)
 ·exfalso;have h:(p:Int)=0:=cd;omega
 ·have vi:(p:Int)≠0:=by omega
  refine aC (ai (rr ae (aj (rr ae (aK (bA (α:=Nat×Nat×Nat×Nat) (λx=>⟨[(0,cU x.2.2.1),(1,cU x.2.2.2),(2,cU p),(7,cU x.2.1)],[],4,[]⟩) (λx=>wQ x.1 x.2.1 x.2.2.1 x.2.2.2 p=Ae a n p∧x.2.2.2<2^x.1∧x.2.1<p∧x.2.2.1<p∧x.2.2.2<18446744073709551616) (λx=>x.2.2.2) (64,1%p,a%p,n) ⟨ae,hn,iq _ cK,iq _ cK,hn⟩ (wk ⟨sE ae ?_,sR ae,sR ae,sE ae ?_,ah⟩ ah) ?_))))))
  ·exact az (λz=>AV.c (C.I .u64 z)) (k7 a p)
  ·exact az (λz=>AV.c (C.I .u64 z)) (k7 1 p)
  ·rintro⟨f,r,b,m⟩ ⟨hL,hm,hr,hb,rE⟩;simp only at hL hm hr hb rE;refine aj (rr ae ?_);refine ax ae (λh2=>?_) (λh2=>?_)
   ·have h2:(m:Int)>0:=by simpa using h2
    cases f with
    |zero=>rw[xI]at hm;omega
    |succ f=>
     have mz:m/2<2^f:=by rw[iX]at hm;omega
     rw[wQ,aq af]at hL
     refine aC (ai (aj (aK (aj (rr ae ?_)))))
     refine ax ae (λh3=>?_) (λh3=>?_)
     ·have h3:m%2=1:=by have h3:=eq_of_beq h3;have e:(m:Int).tmod 2=((m%2:Nat):Int):=k7 m 2;have h4:(m:Int).tmod 2=1:=h3;omega
      rw[aw h3]at hL;refine rt ae (ai (rt ae (a7 (ai (rt ae (a8 (f,r*b%p,b*b%p,m/2) ⟨hL,mz,iq _ cK,iq _ cK,by show m/2<18446744073709551616;omega⟩ (by show m/2<m;omega) (wk ⟨sE ae ?_,sE ae ?_,sR ae,sE ae ?_,ah⟩ ah)))))))
      ·exact az (λz=>AV.c (C.I .u64 z)) (Hw b b p hb hb hp)
      ·exact az (λz=>AV.c (C.I .u64 z)) (BU m rE)
      ·exact az (λz=>AV.c (C.I .u64 z)) (Hw r b p hr hb hp)
     ·have h3:¬m%2=1:=by intro e;have e2:(m:Int).tmod 2=((m%2:Nat):Int):=k7 m 2;have h4:((m:Int).tmod 2==1)=false:=h3;rw[show(m:Int).tmod 2=1 by omega]at h4;cases h4
      rw[aq h3]at hL;refine aC (ai (rt ae (a7 (ai (rt ae (a8 (f,r,b*b%p,m/2) ⟨hL,mz,hr,iq _ cK,by show m/2<18446744073709551616;omega⟩ (by show m/2<m;omega) (wk ⟨sE ae ?_,sE ae ?_,sR ae,sR ae,ah⟩ ah)))))))
      ·exact az (λz=>AV.c (C.I .u64 z)) (Hw b b p hb hb hp)
      ·exact az (λz=>AV.c (C.I .u64 z)) (BU m rE)
   ·have h2:¬(m:Int)>0:=by simpa using h2
    have:m=0:=af;subst this;refine bp (bu (br (bq (ai (rr ae (aF (aL ar ae (au.of_eq ?_))))))));rw[←hL];cases f with
    |zero=>rfl
    |succ f=>rw[wQ,aw ae]
def ajn(a p:Nat)(ha:a<18446744073709551616)(hz:a%p≠0)(cK:2≤p)(hp:p≤4294967296):aG Tryz.prog 124 [cU a,cU p] (.t [(false,[.I .u64 (gW a p)]),(false,[.I .i64 0])]):=by
 refine aX Tryz.func124 ae ae ae ae ae ak ?_;have vi:(p:Int)≠0:=af;refine rr ae (aj (rb ?_));refine rg 8 ae ae (λh=>?_) (λh=>?_)
 ·exfalso;have h:(p:Int)<2:=cd;omega
 ·refine re ae (ax ae (λh2=>?_) (λh2=>?_))
  ·exfalso;have h2:(a:Int).tmod (p:Int)=0:=gR;rw[k7]at h2;omega
  ·have e:aG Tryz.prog 180 [cU a,.c (num .u64 ((p:Int)-2)).1,cU p] (cU (Ae a (p-2) p)):=by rw[show(AV.c (num .u64 ((p:Int)-2)).1)=cU ((p-2:Nat):Int)from az (λx=>AV.c (C.I .u64 x)) ((wrap_u64 _ af af).trans af)];exact Rm a (p-2) p ha af af hp
   exact aC (ai (rb (rc ae ae e (re ae (aF (aL ar ae (au.refl _)))))))
def aP(xs:List Int)(p:Int):AV:= .a [.S aM xs,.I .u64 p]
def YN{ws:List Int}{k:Nat}(iO:iI ws k=iI ws ws.length)(h1:k=0∨ws.getD (k-1) 0≠0):ws.take k=a6 ws:=by
 unfold a6;rw[←iO];cases k with
 |zero=>rfl
 |succ k=>
  rcases h1 with h1|h1
  ·omega
  ·simp only[jx]at h1;simp only[iI,h1,cP]
set_option maxHeartbeats 1000000 in
def Ep(ws:List Int)(p:Int)(hb:ws.length≤1000000):aG Tryz.prog 123 [aP ws p] (aP (a6 ws) p):=by
 refine aX Tryz.func123 ae ae ae ae ae ak ?_;refine rr ae (rr ae ?_);refine aj (aK (bA (α:=Nat) (λk=>⟨[(1,.c (.P 0 0)),(2,.c (.P 1000 0)),(3,cI k)],[(0,.box 101 0 [.S aM ws,.I .u64 p]),(1000,.box 101 0 [.V (.slice none 0 0),.I .u64 0])],2,[]⟩) (λk=>k≤ws.length∧iI ws k=iI ws ws.length) (λk=>k) ws.length ⟨bF _,ae⟩ (wk ⟨sR ae,sR ae,sR ae,ah⟩ ⟨bE ae ae,bE ae ae,ah⟩) ?_));rintro k ⟨hk,iO⟩;refine aj (rb ?_);refine rg 9 ae ae (λh=>?_) (λh=>?_)
 ·simp at h;refine re ae (ax ae (λh2=>?_) (λh2=>?_))
  ·refine aC (ai (aK (rt ae (a7 (a8 (k-1) ⟨by omega,?_⟩ (by show k-1<k;omega) (wk ⟨sR ae,sR ae,sE ae ?_,ah⟩ ⟨bE ae ae,bE ae ae,ah⟩))))))
   ·rw[←iO];obtain⟨j,rfl⟩:∃j,k=j+1:=⟨k-1,by omega⟩;have h3:ws.getD j 0=0:=by have:(((j+1:Nat):Int)-1).toNat=j:=af;simpa[this]using h2
    simp only[jx,iI,h3,cM]
   ·congr 2;omega
  ·refine bp (bu (br (bq (ai (rr ae (aF (aL ar ae (au.of_eq ?_))))))));refine az (aP · p) ?_;rw[←YN iO (.inr ?_)]
   ·simp
   ·have:((k:Int)-1).toNat=k-1:=by omega
    simpa[this]using h2
 ·simp at h;subst h;refine re ae (ax ae (λh2=>by simp at h2) (λ_=>?_));refine bp (bu (br (bq (ai (rr ae (aF (aL ar ae (au.of_eq ?_))))))));exact az (aP · p) (YN iO (.inl ae))
def rp(p:Int)(r:List Int):Prop:=∀i,0≤r.getD i 0∧r.getD i 0<p
def Hx{p:Int}{r:List Int}(h:rp p r)(i:Nat){x:Int}(h0:0≤x)(h1:x<p):rp p (r.set i x):=by
 intro j;have:=h j;simp only[aY,F7]at this⊢;split
 ·split
  ·exact⟨h0,h1⟩
  ·rename_i e1 e2;simp only[Option.getD_none];exact⟨jH _,by omega⟩
 ·exact this
def Rn{p:Int}(hp:0<p)(n:Nat):rp p (List.replicate n 0):=by
 intro j;simp only[aY,mM];split
 ·exact⟨jH _,hp⟩
 ·exact⟨jH _,hp⟩
def vj(a b:List Int)(p:Int)(i:Nat):Nat→List Int→List Int
 |0,r=>r
 |j+1,r=>(vj a b p i j r).set (i+j) (((vj a b p i j r).getD (i+j) 0+a.getD i 0*b.getD j 0)%p)
def qD(a b:List Int)(p:Int):Nat→List Int
 |0=>List.replicate (a.length+b.length-1) 0
 |i+1=>vj a b p i b.length (qD a b p i)
def Lm(a b:List Int)(p:Int)(i:Nat)(r:List Int):∀j,(vj a b p i j r).length=r.length
 |0=>rfl
 |j+1=>by rw[vj,gK,Lm a b p i r j]
def Ln(a b:List Int)(p:Int):∀i,(qD a b p i).length=a.length+b.length-1
 |0=>by simp[qD]
 |i+1=>by rw[qD,Lm,Ln a b p i]
def Ro{a b:List Int}{p:Int}(hp:0<p)(i:Nat){r:List Int}(h:rp p r):∀j,rp p (vj a b p i j r)
 |0=>h
 |j+1=>Hx (Ro hp i h j) _ (gT _ af) (il _ hp)
def Rp(a b:List Int){p:Int}(hp:0<p):∀i,rp p (qD a b p i)
 |0=>Rn hp _
 |i+1=>Ro hp i (Rp a b hp i) _
def eC(a b:List Int)(p:Int):List Int:=if a=[]∨b=[]then[]else a6 (qD a b p a.length)
def YO(x y z p:Int)(hx:0≤x∧x<p)(hy:0≤y∧y<p)(hz:0≤z∧z<p)(hp:p≤2147483648):(IntKind.wrap .u64 (x+IntKind.wrap .u64 (y*z))).tmod p=(x+y*z)%p:=by have h0:0≤y*z:=j4 hy.1 hz.1;have h1:y*z≤2147483648*2147483648:=A4 af af hz.1 af;rw[wrap_u64 (y*z) h0 af,wrap_u64 _ af af,qZ af]
def au.trans{x y z:AV}(h:au x y)(k:au y z):au x z:=⟨λg v e=>k.1 g v (h.1 g v e),λid e=>h.2 id (k.2 id e)⟩
def au.a2{x x' y:C}(h:au (.c x) (.c x')):au (.a [x,y]) (.a [x',y]):=by
 refine⟨?_,?_⟩
 ·rintro g v ⟨vs,rfl,v1,r,rfl,h1,h2⟩;exact⟨_,ae,v1,r,ae,h.1 g v1 h1,h2⟩
 ·intro id al;have h2:=h.2 id;simp only[AV.aD,cA,kp,bX]at al h2⊢;exact al.elim (λh=> .inl (h2 h)) .inr
set_option maxHeartbeats 2000000 in
def Hy(a b:List Int)(p:Int)(la:a.length≤1000)(lb:b.length≤1000)(cK:0<p)(hp:p≤2147483648)(ha:rp p a)(hb:rp p b):aG Tryz.prog 94 [aP a p,aP b p] (aP (eC a b p) p):=by
 refine aX Tryz.func94 ae ae ae ae ae ak ?_;have vi:p≠0:=af;refine rr ae (aj (rb ?_));have fin:a=[]∨b=[]→aP [] p=aP (eC a b p) p:=λh=>by rw[eC,aw h]
 refine rg 12 ae ae (λh=>?_) (λh=>?_)
 ·have h:a=[]:=by simpa using h
  refine re ae (ax ae (λh2=>?_) (λh2=>by simp at h2));exact rr ae (aF (bW (aL ar ae (au.trans (au.a2 (au.nil aM)) (au.of_eq (fin (.inl h)))))))
 ·have h:a≠[]:=by simpa using h
  refine re ae (ax ae (λh2=>?_) (λh2=>?_))
  ·have h2:b=[]:=by simpa using h2
   exact rr ae (aF (bW (aL ar ae (au.trans (au.a2 (au.nil aM)) (au.of_eq (fin (.inr h2)))))))
  ·have h2:b≠[]:=by simpa using h2
   have pa:=cX.2 h;have pb:=cX.2 h2;refine aC (ai (rb ?_));refine rm aM (a.length+b.length-1) ae ae ae ae ae ae (lN .u64) af ?_ ?_ ?_
   ·show _*8≤_;omega
   ·show _*1≤_;omega
   refine re ae (aj (rr ae ?_));refine aK (bA (α:=Nat) (λi=>⟨[(2,.c (.P 0 0)),(3,.c (.P 1000 0)),(4,.c (.P 2000 0)),(5,.c (.X 2008000)),(32,cI a.length),(33,cI i)],[(0,.box 101 0 [.S aM a,.I .u64 p]),(1000,.box 101 0 [.S aM b,.I .u64 p]),(2000,.box 101 0 [.V (.slice none 0 0),.I .u64 0]),(2008000,.vec 25 aM (qD a b p i))],4,[]⟩) (λi=>i≤a.length) (λi=>a.length-i) 0 (bK _) (wk ⟨sR ae,sR ae,sR ae,sR ae,sR ae,sR ae,ah⟩ ⟨bE ae ae,bE ae ae,bE ae ae,bE ae ae,ah⟩) ?_);intro i hi;have Er:=Ln a b p i;refine rr ae (aj ?_);refine ax ae (λh3=>?_) (λh3=>?_)
   ·have h3:i<a.length:=by simpa using h3
    refine aC (ai (aj (aK (rr ae (rr ae ?_)))));refine aK (bA (α:=Nat) (λj=>⟨[(2,.c (.P 0 0)),(3,.c (.P 1000 0)),(4,.c (.P 2000 0)),(5,.c (.X 2008000)),(6,cI i),(32,cI a.length),(33,cI i),(38,cI b.length),(39,cI j)],[(0,.box 101 0 [.S aM a,.I .u64 p]),(1000,.box 101 0 [.S aM b,.I .u64 p]),(2000,.box 101 0 [.V (.slice none 0 0),.I .u64 0]),(2008000,.vec 25 aM (vj a b p i j (qD a b p i)))],7,[]⟩) (λj=>j≤b.length) (λj=>b.length-j) 0 (bK _) (wk ⟨sR ae,sR ae,sR ae,sR ae,sR ae,sR ae,sR ae,sR ae,sR ae,ah⟩ ⟨bE ae ae,bE ae ae,bE ae ae,bE ae ae,ah⟩) ?_);intro j hj;have Rq:=Lm a b p i (qD a b p i) j;refine rr ae (aj ?_);refine ax ae (λh4=>?_) (λh4=>?_)
    ·have h4:j<b.length:=by simpa using h4
     have ga:=ha i;have gb:=hb j;have gr:=Ro cK (a:=a) (b:=b) i (Rp a b cK i) j (i+j);have yl:((i:Int)+(j:Int)).toNat=i+j:=af;refine aC (ai (aj (aK (rr ae (rt ae ?_ (hp:=jN))))));refine a7 (ai (rt ae (a8 (j+1) h4 Oy (wk ⟨sR ae,sR ae,sR ae,sR ae,sR ae,sR ae,sR ae,sR ae,sR ae,ah⟩ ⟨bE ae ae,bE ae ae,bE ae ae,bE ae ?_,ah⟩))));rw[vj,yl,←YO _ _ _ p gr ga gb hp];rfl
    ·have h4:¬j<b.length:=by simpa using h4
     have e:j=b.length:=af;subst e;refine bp (bu (br (bq (a7 (ai (rt ae (a8 (i+1) h3 pQ (wk ⟨sR ae,sR ae,sR ae,sR ae,sR ae,sR ae,ah⟩ ⟨bE ae ae,bE ae ae,bE ae ae,bE ae ae,ah⟩))))))))
   ·have h3:¬i<a.length:=by simpa using h3
    have e:i=a.length:=af;subst e;refine bp (bu (br (bq (ai (fS 2008000 ae ae ae (rb (rc ae ae (Ep (qD a b p a.length) p af) (re ae (aF (aL ar ae (au.of_eq ?_)))))))))));rw[eC,aq (λe=>e.elim h h2)];rfl
def ajo(x:Int)(ws:List Int)(hl:ws.length≤1000000):mY Tryz.prog 181 [cS aM (x::ws)] 25 aM (x::ws):=by
 refine zS Tryz.func181 ae ae ae ae ak ?_;refine rr ae (aj (rb (rx ae ae ah (re ae ?_))));refine ax ae (λh=>by simp at h) (λh=>?_);refine aC (ai (rb (x8 aM [] ae ae (ra ae ae ae ae ae ae ae ae ae ?_ ?_ (re ae (aF (ya (id:=2002000) ar ae ae)))))))
 ·show(_+(_+1)+(_+(_+1))/4+192)*8≤_;simp only[mc];omega
 ·show(_+(_+1))*1≤_;simp only[mc];omega
def tZ(ws:List Int)(p:Int)(hl:ws.length≤1000000):aG Tryz.prog 93 [aP ws p] (cI ((ws.length:Int)-1)):=by refine aX Tryz.func93 ae ae ae ae ae ak ?_;exact rr ae (rr ae (aF (aL ar ae (au.refl _))))
def vk(b:List Int)(p c:Int)(i:Nat):Nat→List Int→List Int
 |0,r=>r
 |j+1,r=>(vk b p c i j r).set (i+j) (((vk b p c i j r).getD (i+j) 0+(p-c)*b.getD j 0)%p)
def iQ(a b:List Int)(p v:Int)(m n:Nat):Nat→List Int×List Int
 |0=>(List.replicate m 0,a)
 |k+1=>((iQ a b p v m n k).1.set (m-(k+1)) ((iQ a b p v m n k).2.getD (m-(k+1)+n) 0*v%p),vk b p ((iQ a b p v m n k).2.getD (m-(k+1)+n) 0*v%p) (m-(k+1)) b.length (iQ a b p v m n k).2)
def Lo(b:List Int)(p c:Int)(i:Nat)(r:List Int):∀j,(vk b p c i j r).length=r.length
 |0=>rfl
 |j+1=>by rw[vk,gK,Lo b p c i r j]
def Rs{b:List Int}{p c:Int}(hp:0<p)(i:Nat){r:List Int}(h:rp p r):∀j,rp p (vk b p c i j r)
 |0=>h
 |j+1=>Hx (Rs hp i h j) _ (gT _ af) (il _ hp)
def Lp(a b:List Int)(p v:Int)(m n:Nat):∀k,(iQ a b p v m n k).1.length=m∧(iQ a b p v m n k).2.length=a.length
 |0=>by simp[iQ]
 |k+1=>by have:=Lp a b p v m n k;simp only[iQ,gK,Lo];exact this
def Rt{a:List Int}(b:List Int){p:Int}(v:Int)(m n:Nat)(hp:0<p)(ha:rp p a):∀k,rp p (iQ a b p v m n k).1∧rp p (iQ a b p v m n k).2
 |0=>⟨Rn hp _,ha⟩
 |k+1=>by have h:=Rt b v m n hp ha k;exact⟨Hx h.1 _ (gT _ af) (il _ hp),Rs hp _ h.2 _⟩
def bM(a b:List Int)(p:Int):List Int×List Int:=
 if a.length≤b.length-1 then([],a)
 else(λx=>(x.1,a6 (x.2.take (b.length-1)))) (iQ a b p (gW (b.getD (b.length-1) 0).toNat p.toNat:Nat) (a.length-(b.length-1)) (b.length-1) (a.length-(b.length-1)))
def YP(x y z p:Int)(hx:0≤x∧x<p)(hy:0≤y∧y≤p)(hz:0≤z∧z<p)(hp:p≤2147483648):(IntKind.wrap .u64 (x+IntKind.wrap .u64 (y*z))).tmod p=(x+y*z)%p:=by have h0:0≤y*z:=j4 hy.1 hz.1;have h1:y*z≤2147483648*2147483648:=A4 af af hz.1 af;rw[wrap_u64 (y*z) h0 af,wrap_u64 _ af af,qZ af]
def Ru(y z p:Int)(hy:0≤y∧y<p)(hz:0≤z∧z<p)(hp:p≤2147483648):(IntKind.wrap .u64 (y*z)).tmod p=y*z%p:=by have h0:0≤y*z:=j4 hy.1 hz.1;have h1:y*z≤2147483648*2147483648:=A4 af af hz.1 af;rw[wrap_u64 (y*z) h0 af,qZ af]
def Lq(a p:Int)(ha:0≤a∧a<p)(hz:a≠0)(cK:2≤p)(hp:p≤2147483648):aG Tryz.prog 124 [cU a,cU p] (.t [(false,[.I .u64 (gW a.toNat p.toNat:Nat)]),(false,[.I .i64 0])]):=by have h:=ajn a.toNat p.toNat af (by rw[q9 af];omega) af af;rwa[F5 ha.1,F5 (by omega:0≤p)]at h
def au.ta{x x' y:C}{r:List (Bool×List C)}(h:au (.c x) (.c x')):au (.t ((true,[x,y])::r)) (.t ((true,[x',y])::r)):=by
 refine⟨?_,?_⟩
 ·rintro g v ⟨vs,rfl,v1,r1,rfl,⟨us,rfl,v2,r2,rfl,h1,h2⟩,h3⟩;exact⟨_,ae,_,_,ae,⟨_,ae,v2,r2,ae,h.1 g v2 h1,h2⟩,h3⟩
 ·intro id al;have h2:=h.2 id;simp only[AV.aD,fE,cA,kp,bX]at al h2⊢;rcases al with(al|al)|al
  ·exact .inl (.inl (h2 al))
  ·exact .inl (.inr al)
  ·exact .inr al
set_option maxHeartbeats 4000000 in
def ajp(x:Int)(a' b:List Int)(p:Int){a:List Int}(ea:a=x::a')(la:a.length≤1000)(lb:b.length≤1000)(cK:2≤p)(hp:p≤2147483648)(ha:rp p a)(hb:rp p b)(et:b≠[])(eJ:b.getD (b.length-1) 0≠0):aG Tryz.prog 127 [aP a p,aP b p] (.t [(true,[.S aM (bM a b p).1,.I .u64 p]),(true,[.S aM (bM a b p).2,.I .u64 p])]):=by
 refine aX Tryz.func127 ae ae ae ae ae ak ?_;have vi:p≠0:=af;have pb:=cX.2 et;have ru:mY Tryz.prog 181 [cS aM a] 25 aM a:=by rw[ea]at la⊢;exact ajo x a' (by simp at la;omega)
 refine rr ae (rb (wK ae ae ru (re ae (rb (rc ae ae (tZ b p af) (re ae (aj (rr ae ?_))))))));refine ax ae (λh=>?_) (λh=>?_)
 ·have h:a.length≤b.length-1:=by have h:(a.length:Int)≤(b.length:Int)-1:=cd;omega
  have e:bM a b p=([],a):=by rw[bM,aw h]
  rw[e];refine rr ae (aF (bW (aL ar ae ?_)));exact au.ta (au.nil aM)
 ·have h:¬a.length≤b.length-1:=by have h:¬(a.length:Int)≤(b.length:Int)-1:=cd;omega
  obtain⟨n,hn⟩:∃n,b.length=n+1:=⟨b.length-1,by omega⟩;obtain⟨m,hm⟩:∃m,a.length=n+m:=⟨a.length-n,by omega⟩;have e:bM a b p=((iQ a b p (gW (b.getD n 0).toNat p.toNat:Nat) m n m).1,a6 ((iQ a b p (gW (b.getD n 0).toNat p.toNat:Nat) m n m).2.take n)):=by rw[bM,aq h,hn,hm,jx,FX]
  rw[e];rw[hn,jx]at eJ;have en:(b.length:Int)-1=(n:Int):=af;generalize hv:(gW (b.getD n 0).toNat p.toNat:Nat)=v;have Rh:(0:Int)≤(v:Int)∧(v:Int)<p:=by have:=Rl (b.getD n 0).toNat (p.toNat-2) p.toNat af;unfold gW at hv;omega
  rw[en];have hinv:=Lq (b.getD n 0) p (hb n) eJ cK hp;rw[hv]at hinv;refine aC (ai (rb (rc ae ae hinv (re ae (rb ?_)))));refine rm aM m ae ae ae ae ae ae (lN .u64) af ?_ ?_ ?_
  ·show _*8≤_;omega
  ·show _*1≤_;omega
  refine re ae (aj (rr ae ?_));refine aK (bA (α:=Nat) (λk=>⟨[(2,.c (.P 0 0)),(3,.c (.P 1000 0)),(4,.c (.P 2000 0)),(5,.c (.P 3000 0)),(6,.c (.X 1002000)),(7,cI n),(8,cU v),(10,.c (.X 5004000)),(11,cI ((m:Int)-1-k))],[(0,.box 101 0 [.S aM a,.I .u64 p]),(1000,.box 101 0 [.S aM b,.I .u64 p]),(2000,.box 101 0 [.V (.slice none 0 0),.I .u64 0]),(3000,.box 101 0 [.V (.slice none 0 0),.I .u64 0]),(1002000,.vec 25 aM (iQ a b p v m n k).2),(5004000,.vec 25 aM (iQ a b p v m n k).1)],7,[]⟩) (λk=>k≤m) (λk=>m-k) 0 (bK _) (wk ⟨sR ae,sR ae,sR ae,sR ae,sR ae,sR ae,sR ae,sR ae,sE ae ?_,ah⟩ ⟨bE ae ae,bE ae ae,bE ae ae,bE ae ae,bE ae ae,bE ae ae,ah⟩) ?_)
  ·exact az cI (by simp only[jv];omega)
  intro k hk;have Lk:=Lp a b p v m n k;have Bi:=Rt b v m n af ha k;refine aj (rr ae ?_);refine ax ae (λh3=>?_) (λh3=>?_)
  ·have h3:k<m:=by have h3:(m:Int)-1-k≥0:=xv;omega
   obtain⟨i,hi⟩:∃i,m=i+(k+1):=⟨m-(k+1),by omega⟩;have ei:(m:Int)-1-k=(i:Int):=af;have Hz:m-(k+1)=i:=af;rw[ei];have ein:((i:Int)+(n:Int)).toNat=i+n:=af;generalize hc:(iQ a b p v m n k).2.getD (i+n) 0*v%p=c;have Bj:0≤c∧c<p:=by rw[←hc];exact⟨gT _ af,il _ af⟩
   have lQ:=Bi.2 (i+n);refine aC (ai (aj (aK (rr ae (hp:=jN) (rr ae ?_)))));refine aK (bA (α:=Nat) (λj=>⟨[(2,.c (.P 0 0)),(3,.c (.P 1000 0)),(4,.c (.P 2000 0)),(5,.c (.P 3000 0)),(6,.c (.X 1002000)),(7,cI n),(8,cU v),(10,.c (.X 5004000)),(11,cI i),(65,cI b.length),(66,cI j)],[(0,.box 101 0 [.S aM a,.I .u64 p]),(1000,.box 101 0 [.S aM b,.I .u64 p]),(2000,.box 101 0 [.V (.slice none 0 0),.I .u64 0]),(3000,.box 101 0 [.V (.slice none 0 0),.I .u64 0]),(1002000,.vec 25 aM (vk b p c i j (iQ a b p v m n k).2)),(5004000,.vec 25 aM ((iQ a b p v m n k).1.set i c))],10,[]⟩) (λj=>j≤b.length) (λj=>b.length-j) 0 (bK _) (wk ⟨sR ae,sR ae,sR ae,sR ae,sR ae,sR ae,sR ae,sR ae,sR ae,sR ae,sR ae,ah⟩ ⟨bE ae ae,bE ae ae,bE ae ae,bE ae ae,bE ae ae,bE ae ?_,ah⟩) ?_)
   ·rw[←hc,←Ru _ _ p lQ Rh hp,←ein];rfl
   intro j hj;have Rq:=Lo b p c i (iQ a b p v m n k).2 j;have Lr:=Rs (b:=b) (p:=p) (c:=c) af i Bi.2 j (i+j);refine rr ae (aj ?_);refine ax ae (λh4=>?_) (λh4=>?_)
   ·have h4:j<b.length:=by simpa using h4
    have gb:=hb j;have yl:((i:Int)+(j:Int)).toNat=i+j:=af;have Lt:((iQ a b p v m n k).1.set i c).getD i 0=c:=by rw[aY,List.getElem?_set_self af];rfl
    have sX:((iQ a b p v m n k).1.set i c).length=m:=by rw[gK];exact Lk.1
    refine aC (ai (aj (aK (rr ae (rt ae ?_ (hp:=jN))))));refine a7 (ai (rt ae (a8 (j+1) h4 Oy (wk ⟨sR ae,sR ae,sR ae,sR ae,sR ae,sR ae,sR ae,sR ae,sR ae,sR ae,sR ae,ah⟩ ⟨bE ae ae,bE ae ae,bE ae ae,bE ae ae,bE ae ?_,bE ae ae,ah⟩))));rw[vk,yl,←YP _ (p-c) _ p Lr af gb hp];have e2:IntKind.wrap .u64 (p-((iQ a b p v m n k).1.set i c).getD (i:Int).toNat 0)=p-c:=by rw[bw,Lt,wrap_u64 _ af af]
    rw[←e2];rfl
   ·have h4:¬j<b.length:=by simpa using h4
    have e:j=b.length:=af;subst e;refine bp (bu (br (bq (a7 (ai (rt ae (a8 (k+1) h3 (by show m-(k+1)<m-k;omega) (wk ⟨sR ae,sR ae,sR ae,sR ae,sR ae,sR ae,sR ae,sR ae,sE ae ?_,ah⟩ ⟨bE ae ae,bE ae ae,bE ae ae,bE ae ae,bE ae ?_,bE ae ?_,ah⟩))))))))
    ·exact az cI af
    ·rw[iQ,Hz,hc]
    ·rw[iQ,Hz,hc]
  ·have h3:¬k<m:=by have h3:¬(m:Int)-1-k≥0:=xv;omega
   have e:k=m:=af;subst e;refine bp (bu (br (bq (ai (fS 1002000 ae ae ae (fS 5004000 ae ae ae (rb (rc ae ae (Ep ((iQ a b p v k n k).2.take n) p y7) (re ae (aF (aL ar ae (au.refl _))))))))))))
end Go.El
namespace Go.El
def sm(f:Nat→Int):Nat→Int
 |0=>0
 |k+1=>sm f k+f k
def Lu(A B:Nat→Int)(n:Nat):∀k,z8 A B n k=sm (λi=>A i*B (n-i)) k
 |0=>rfl
 |k+1=>by rw[z8,sm,Lu A B n k]
def fT{f g:Nat→Int}:∀{k:Nat},(∀i,i<k→f i=g i)→sm f k=sm g k
 |0,_=>rfl
 |k+1,h=>by rw[sm,sm,fT (λi hi=>h i af),h k af]
def nZ{f:Nat→Int}{k:Nat}(h:∀i,i<k→f i=0):sm f k=0:=by
 induction k with
 |zero=>rfl
 |succ k ih=>rw[sm,ih (λi hi=>h i af),h k af];rfl
def BV(f g:Nat→Int):∀k,sm (λi=>f i+g i) k=sm f k+sm g k
 |0=>rfl
 |k+1=>by simp only[sm,BV f g k];omega
def ua(c:Int)(f:Nat→Int):∀k,sm (λi=>c*f i) k=c*sm f k
 |0=>by simp[sm]
 |k+1=>by simp only[sm,ua c f k,oX]
def Rv(c:Int)(f:Nat→Int)(k:Nat):sm (λi=>f i*c) k=sm f k*c:=by rw[fc,←ua];exact fT (λi _=>fc _ _)
def YQ(f:Nat→Int):∀k,sm f (k+1)=f 0+sm (λi=>f (i+1)) k
 |0=>by simp[sm]
 |k+1=>by rw[sm,YQ f k,sm];omega
def YR(f:Nat→Int):∀k,sm f k=sm (λi=>f (k-1-i)) k
 |0=>rfl
 |k+1=>by rw[sm,YR f k,YQ (λi=>f (k+1-1-i))];have:sm (λi=>f (k+1-1-(i+1))) k=sm (λi=>f (k-1-i)) k:=fT (λi _=>by congr 1;omega);rw[this,show k+1-1-0=k by omega];omega
def YS(F:Nat→Nat→Int):∀n,sm (λi=>sm (λj=>F i j) (i+1)) n=sm (λj=>sm (λk=>F (j+k) j) (n-j)) n
 |0=>rfl
 |n+1=>by
  rw[sm,YS F n];have h1:sm (λj=>sm (λk=>F (j+k) j) (n+1-j)) n=sm (λj=>sm (λk=>F (j+k) j) (n-j)+F n j) n:=by refine fT (λj hj=>?_);rw[show n+1-j=(n-j)+1 by omega,sm,show j+(n-j)=n by omega]
  rw[show sm (λj=>sm (λk=>F (j+k) j) (n+1-j)) (n+1)=sm (λj=>sm (λk=>F (j+k) j) (n+1-j)) n+sm (λk=>F (n+k) n) (n+1-n)from ae,h1,BV];rw[show n+1-n=1 by omega,show sm (λj=>F n j) (n+1)=sm (λj=>F n j) n+F n n from ae,show sm (λk=>F (n+k) n) 1=0+F (n+0) n from ae,j6];have e9:sm (λj=>F n j) n=sm (F n) n:=rfl;omega
def PS:Type:=Nat→Int
namespace PS
instance:Add PS:=⟨λA B i=>A i+B i⟩
instance:Mul PS:=⟨λA B=>conv A B⟩
instance:Neg PS:=⟨λA i=> -(A i)⟩
instance:_root_.Sub PS:=⟨λA B i=>A i-B i⟩
instance:OfNat PS 0:=⟨λ_=>(0:Int)⟩
instance:OfNat PS 1:=⟨λi=>if i=0 then(1:Int)else 0⟩
def K(c:Int):PS:=λi=>if i=0 then c else 0
def X(k:Nat):PS:=λi=>if i=k then 1 else 0
def ext{A B:PS}(h:∀i,A i=B i):A=B:=funext h
def fJ(A B:PS)(i:Nat):(A+B) i=A i+B i:=rfl
def Lv(A:PS)(i:Nat):(-A) i= -(A i):=rfl
def yn(A B:PS)(i:Nat):(A-B) i=A i-B i:=rfl
def lR(i:Nat):(0:PS) i=0:=rfl
def gN(A B:PS)(n:Nat):(A*B) n=sm (λi=>A i*B (n-i)) (n+1):=Lu A B n (n+1)
def add_comm(A B:PS):A+B=B+A:=ext λi=>xH _ _
def add_assoc(A B C:PS):A+B+C=A+(B+C):=ext λi=>Int.add_assoc _ _ _
def zero_add(A:PS):0+A=A:=ext λi=>A7 _
def add_zero(A:PS):A+0=A:=ext λi=>nl _
def add_neg(A:PS):A+ -A=0:=ext λi=>Int.add_right_neg _
def Rw(A:PS): -A+A=0:=ext λi=>Int.add_left_neg _
def sub_def(A B:PS):A-B=A+ -B:=ext λi=>OP
def neg_zero: -(0:PS)=0:=rfl
def neg_add(A B:PS): -(A+B)= -A+ -B:=ext λi=>Int.neg_add
def mul_comm(A B:PS):A*B=B*A:=by
 refine ext λn=>?_
 rw[gN,gN,YR];refine fT (λi hi=>?_);rw[fc];congr 1<;>congr 1<;>omega
def mul_add(A B C:PS):A*(B+C)=A*B+A*C:=by
 refine ext λn=>?_
 rw[fJ,gN,gN,gN,←BV];exact fT (λi _=>by rw[fJ,oX])
def add_mul(A B C:PS):(A+B)*C=A*C+B*C:=by rw[mul_comm,mul_add,mul_comm C A,mul_comm C B]
def mul_assoc(A B C:PS):A*B*C=A*(B*C):=by
 refine ext λn=>?_
 rw[gN,gN];have h1:sm (λi=>(A*B) i*C (n-i)) (n+1)=sm (λi=>sm (λj=>A j*B (i-j)*C (n-i)) (i+1)) (n+1):=fT (λi _=>by rw[gN,Rv]);rw[h1,YS (λi j=>A j*B (i-j)*C (n-i))];refine fT (λj hj=>?_);rw[gN,←ua,show n+1-j=n-j+1 by omega];refine fT (λk hk=>?_);rw[j5,show j+k-j=k by omega,show n-(j+k)=n-j-k by omega]
def mul_zero(A:PS):A*0=0:=by
 refine ext λn=>?_
 rw[gN];exact nZ (λi _=>by rw[lR,eo])
def zero_mul(A:PS):0*A=0:=by rw[mul_comm,mul_zero]
def pt(k:Nat)(A:PS)(i:Nat):(X k*A) i=if k≤i then A (i-k)else 0:=by
 rw[gN];by_cases h:k≤i
 ·rw[aw h];have e:sm (λj=>X k j*A (i-j)) (i+1)=X k k*A (i-k):=by have:=Rc (X k) A i k (i+1) af (λj _ hj=>by simp[X,hj]);exact(Lu (X k) A i (i+1)).symm.trans this
  rw[e];simp[X]
 ·rw[aq h];exact nZ (λj hj=>by simp[X,show j≠k by omega])
def gA(c:Int)(A:PS)(i:Nat):(K c*A) i=c*A i:=by rw[gN];have:=Rc (K c) A i 0 (i+1) af (λj _ hj=>by simp[K,hj]);rw[show sm (λj=>K c j*A (i-j)) (i+1)=K c 0*A (i-0)from(Lu (K c) A i (i+1)).symm.trans this];simp[K]
def Es:(1:PS)=K 1:=rfl
def mA:K 0=0:=ext λi=>by simp[K,lR]
def one_mul(A:PS):1*A=A:=ext λi=>by rw[Es,gA,iY]
def mul_one(A:PS):A*1=A:=by rw[mul_comm,one_mul]
def neg_eq(A:PS): -A=K (-1)*A:=ext λi=>by rw[gA,Lv];omega
def neg_mul(A B:PS): -A*B= -(A*B):=by rw[neg_eq,neg_eq (A*B),mul_assoc]
def mul_neg(A B:PS):A* -B= -(A*B):=by rw[mul_comm,neg_mul,mul_comm B A]
def qE(a b:Int):K (a+b)=K a+K b:=ext λi=>by rw[fJ];unfold K;split<;>rfl
def sY(a b:Int):K (a*b)=K a*K b:=ext λi=>by rw[gA];unfold K;split<;>simp
def Lw(j k:Nat):X (j+k)=X j*X k:=ext λi=>by
 rw[pt];unfold X;by_cases h:j≤i
 ·rw[aw h];by_cases h2:i=j+k
  ·rw[aw h2,aw af]
  ·rw[aq h2,aq af]
 ·rw[aq h,aq af]
instance:Std.Associative (α:=PS) (·+·):=⟨add_assoc⟩
instance:Std.Commutative (α:=PS) (·+·):=⟨add_comm⟩
instance:Std.Associative (α:=PS) (·*·):=⟨mul_assoc⟩
instance:Std.Commutative (α:=PS) (·*·):=⟨mul_comm⟩
end PS
def ps(a:List Int):PS:=λi=>a.getD i 0
def dS(a:List Int)(i:Nat):ps a i=a.getD i 0:=rfl
def Cg(m:Int)(A B:PS):Prop:=∃U:PS,A=B+PS.K m*U
def Cg.at{m:Int}{A B:PS}(h:Cg m A B)(i:Nat):A i%m=B i%m:=by obtain⟨U,rfl⟩:=h;rw[PS.fJ,PS.gA];exact JO _ _ _
def Cg.of{m:Int}{A B:PS}(h:∀i,A i%m=B i%m):Cg m A B:=by
 let U:PS:=λi=>A i/m-B i/m
 refine⟨U,PS.ext λi=>?_⟩;have h1:=oU (A i) m;have h2:=oU (B i) m;have:=h i;have e:U i=A i/m-B i/m:=rfl;rw[PS.fJ,PS.gA,e,J8];omega
def Cg.dvd{m:Int}{A B:PS}(h:Cg m A B)(i:Nat):m∣A i-B i:=by obtain⟨U,rfl⟩:=h;rw[PS.fJ,PS.gA];exact⟨U i,by omega⟩
def Cg.YT{m:Int}{A B:PS}(h:∀i,m∣A i-B i):Cg m A B:=Cg.of λi=>AR.2 (C6 (h i))
def Cg.refl(m:Int)(A:PS):Cg m A A:=⟨0,by rw[PS.mul_zero,PS.add_zero]⟩
def Cg.of_eq{m:Int}{A B:PS}(h:A=B):Cg m A B:=h▸Cg.refl m A
def Cg.symm{m:Int}{A B:PS}(h:Cg m A B):Cg m B A:=Cg.of λi=>(h.at i).symm
def Cg.trans{m:Int}{A B C:PS}(h:Cg m A B)(k:Cg m B C):Cg m A C:=Cg.of λi=>(h.at i).trans (k.at i)
def Cg.add{m:Int}{A B C D:PS}(h:Cg m A B)(k:Cg m C D):Cg m (A+C) (B+D):=by obtain⟨U,rfl⟩:=h;obtain⟨V,rfl⟩:=k;exact⟨U+V,by rw[PS.mul_add];ac_rfl⟩
def Cg.neg{m:Int}{A B:PS}(h:Cg m A B):Cg m (-A) (-B):=by obtain⟨U,rfl⟩:=h;exact⟨-U,by rw[PS.neg_add,PS.mul_neg]⟩
def Cg.sub{m:Int}{A B C D:PS}(h:Cg m A B)(k:Cg m C D):Cg m (A-C) (B-D):=by rw[PS.sub_def,PS.sub_def];exact h.add k.neg
def Cg.mul{m:Int}{A B C D:PS}(h:Cg m A B)(k:Cg m C D):Cg m (A*C) (B*D):=by obtain⟨U,rfl⟩:=h;obtain⟨V,rfl⟩:=k;refine⟨B*V+U*D+PS.K m*U*V,?_⟩;simp only[PS.mul_add,PS.add_mul];ac_rfl
def Cg.vn{m:Int}(A:PS){C D:PS}(k:Cg m C D):Cg m (A*C) (A*D):=(Cg.refl m A).mul k
def Cg.qF{m:Int}{A B:PS}(k:Cg m A B)(C:PS):Cg m (A*C) (B*C):=k.mul (Cg.refl m C)
def Cg.Ry{m:Int}(A:PS){C D:PS}(k:Cg m C D):Cg m (A+C) (A+D):=(Cg.refl m A).add k
def Cg.oI{m:Int}{A B:PS}(k:Cg m A B)(C:PS):Cg m (A+C) (B+C):=k.add (Cg.refl m C)
def Cg.K{m a b:Int}(h:a%m=b%m):Cg m (PS.K a) (PS.K b):=Cg.of λi=>by
 unfold PS.K;split
 ·exact h
 ·rfl
def Cg.Km(m:Int):Cg m (PS.K m) 0:=⟨1,by rw[PS.mul_one,PS.zero_add]⟩
def Cg.up{m n:Int}{A B:PS}(h:Cg n A B):Cg (m*n) (PS.K m*A) (PS.K m*B):=by obtain⟨U,rfl⟩:=h;refine⟨U,?_⟩;rw[PS.mul_add,PS.sY,PS.mul_assoc]
def Dl(p:Int)(n:Nat)(A:PS):Prop:=∀i,n≤i→A i%p=0
def Dl.cg{p:Int}{n:Nat}{A B:PS}(h:Dl p n A)(k:Cg p A B):Dl p n B:=λi hi=>by rw[←k.at i];exact h i hi
def Dl.le{p:Int}{n m:Nat}{A:PS}(h:Dl p n A)(k:n≤m):Dl p m A:=λi hi=>h i af
def Dl.add{p:Int}{n:Nat}{A B:PS}(h:Dl p n A)(k:Dl p n B):Dl p n (A+B):=λi hi=>by rw[PS.fJ,uM,h i hi,k i hi];rfl
def Dl.neg{p:Int}{n:Nat}{A:PS}(h:Dl p n A):Dl p n (-A):=λi hi=>by rw[PS.Lv];exact C6 (Int.dvd_neg.2 (C7 (h i hi)))
def Dl.sub{p:Int}{n:Nat}{A B:PS}(h:Dl p n A)(k:Dl p n B):Dl p n (A-B):=by rw[PS.sub_def];exact h.add k.neg
def YU{p:Int}{f:Nat→Int}{k:Nat}(h:∀i,i<k→f i%p=0):sm f k%p=0:=by
 induction k with
 |zero=>exact df _
 |succ k ih=>rw[sm,uM,ih (λi hi=>h i af),h k af];rfl
def Lx{p a b:Int}(h:a%p=0):a*b%p=0:=by rw[mR,h,kJ,df]
def Ly{p a b:Int}(h:b%p=0):a*b%p=0:=by rw[fc];exact Lx h
def Dl.mul{p:Int}{n m:Nat}{A B:PS}(h:Dl p (n+1) A)(k:Dl p m B):Dl p (n+m) (A*B):=λi hi=>by
 rw[PS.gN];refine YU (λj hj=>?_);by_cases jy:n+1≤j
 ·exact Lx (h j jy)
 ·exact Ly (k (i-j) af)
def Dl.mul'{p:Int}{n m:Nat}{A B:PS}(h:Dl p n A)(k:Dl p m B):Dl p (n+m) (A*B):=by
 cases n with
 |zero=>
  intro i hi
  rw[PS.gN]
  exact YU (λj hj=>Lx (h j (bK _)))
 |succ n=>exact(h.mul k).le af
def Dl.top{p:Int}{n m:Nat}{A B:PS}(h:Dl p (n+1) A)(k:Dl p (m+1) B):(A*B) (n+m)%p=A n*B m%p:=by
 rw[PS.gN];have:∀r,r≤n+m+1→sm (λi=>A i*B (n+m-i)) r%p=if n<r then A n*B m%p else 0:=by
  intro r hr;induction r with
  |zero=>simp[sm]
  |succ r ih=>
   rw[sm,uM,ih af]
   by_cases h1:n<r
   ·rw[aw h1,aw af,Lx (h r af),nl,kS]
   ·rw[aq h1];by_cases h2:n=r
    ·subst h2;rw[aw af,A7,kS,show n+m-n=m by omega]
    ·rw[aq af,Ly (k _ af)];rfl
 rw[this _ (bF _),aw af]
def ajr{p:Int}{A:PS}(h:Dl p 0 A):Cg p A 0:=Cg.of λi=>by rw[h i (bK _),PS.lR,df]
def ke(p:Int)(a:List Int):Dl p a.length (ps a):=λi hi=>by rw[dS,aY,ni hi];simp
def ajs(p:Int)(k:Nat):Dl p (k+1) (PS.X k):=λi hi=>by unfold PS.X;rw[aq af];simp
def Rz(p c:Int):Dl p 1 (PS.K c):=λi hi=>by unfold PS.K;rw[aq af];simp
def BW(p:Int)(n:Nat):Dl p n 0:=λi _=>by rw[PS.lR,df]
def Lz(p:Int):Dl p 1 1:=Rz p 1
def dH(p:Nat):Prop:=2≤p∧∀d,2≤d→d*d≤p→p%d≠0
def dH.wR{p d:Nat}(h:dH p)(hd:d∣p):d=1∨d=p:=by
 obtain⟨e,he⟩:=hd;have h2:=h.1;have d0:d≠0:=by intro e0;subst e0;simp at he;omega
 have e0:e≠0:=by intro e0;subst e0;simp at he;omega
 by_cases d1:d=1
 ·exact .inl d1
 by_cases e1:e=1
 ·subst e1;right;omega
 exfalso;by_cases hde:d≤e
 ·exact h.2 d af (by rw[he];exact lE d hde) (by rw[he];exact Nat.mul_mod_right d e)
 ·exact h.2 e af (by rw[he];exact dY e af) (by rw[he];exact Nat.mul_mod_left d e)
def dH.coprime{p a:Nat}(h:dH p)(ha:¬p∣a):Nat.Coprime p a:=by
 rcases h.wR (Nat.gcd_dvd_left p a)with e|e
 ·exact e
 ·exact absurd (e▸Wa p a) ha
def dH.dvd_mul{p a b:Nat}(h:dH p)(hd:p∣a*b):p∣a∨p∣b:=by
 by_cases ha:p∣a
 ·exact .inl ha
 ·exact .inr ((h.coprime ha).dvd_of_dvd_mul_left hd)
def dH.RA{p:Nat}{a b:Int}(h:dH p)(hd:(p:Int)∣a*b):(p:Int)∣a∨(p:Int)∣b:=by
 have:p∣a.natAbs*b.natAbs:=by rw[←sj];have:=F3.2 hd;rwa[oV]at this
 rcases h.dvd_mul this with e|e
 ·exact .inl (F3.1 (by rwa[oV]))
 ·exact .inr (F3.1 (by rwa[oV]))
def dH.oJ{p:Nat}{a b:Int}(h:dH p)(ha:a%(p:Int)≠0)(hb:b%(p:Int)≠0):a*b%(p:Int)≠0:=λe=>by
 rcases h.RA (C7 e)with e|e
 ·exact ha (C6 e)
 ·exact hb (C6 e)
def ch:Nat→Nat→Nat
 |_,0=>1
 |0,_+1=>0
 |n+1,k+1=>ch n k+ch n (k+1)
def sZ(n:Nat):ch n 0=1:=by cases n<;>rfl
def Af:∀(n k:Nat),n<k→ch n k=0
 |0,0,h=>by omega
 |0,k+1,_=>rfl
 |n+1,0,h=>by omega
 |n+1,k+1,h=>by rw[ch,Af n k af,Af n (k+1) af]
def HA:∀n,ch n n=1
 |0=>rfl
 |n+1=>by rw[ch,HA n,Af n (n+1) af]
def LA:∀(n k:Nat),(k+1)*ch (n+1) (k+1)=(n+1)*ch n k
 |0,0=>rfl
 |0,k+1=>by rw[Af 1 (k+1+1) af];rfl
 |n+1,0=>by have:=LA n 0;rw[sZ]at this;rw[show ch (n+1+1) (0+1)=ch (n+1) 0+ch (n+1) (0+1)from ae,sZ];omega
 |n+1,k+1=>by have h1:=LA n k;have h2:=LA n (k+1);rw[ch,Dk,h2];rw[show(k+1+1)*ch (n+1) (k+1)=(k+1)*ch (n+1) (k+1)+ch (n+1) (k+1)by rw[fP,iZ],h1];rw[show ch (n+1) (k+1)=ch n k+ch n (k+1)from ae];grind
def dH.aju{p k:Nat}(h:dH p)(h0:0<k)(h1:k<p):p∣ch p k:=by
 obtain⟨n,rfl⟩:∃n,p=n+1:=⟨p-1,by omega⟩;obtain⟨j,rfl⟩:∃j,k=j+1:=⟨k-1,by omega⟩;have h2:n+1∣(j+1)*ch (n+1) (j+1):=⟨ch n j,LA n j⟩;rcases h.dvd_mul h2 with e|e
 ·have:=rf af e;omega
 ·exact e
def pw(A:PS):Nat→PS
 |0=>1
 |n+1=>pw A n*A
def sP(f:Nat→PS):Nat→PS
 |0=>0
 |k+1=>sP f k+f k
def RB{f g:Nat→PS}:∀{k:Nat},(∀i,i<k→f i=g i)→sP f k=sP g k
 |0,_=>rfl
 |k+1,h=>by rw[sP,sP,RB (λi hi=>h i af),h k af]
def YV(f g:Nat→PS):∀k,sP (λi=>f i+g i) k=sP f k+sP g k
 |0=>(PS.add_zero 0).symm
 |k+1=>by simp only[sP,YV f g k];ac_rfl
def RC(f:Nat→PS)(A:PS):∀k,sP (λi=>f i*A) k=sP f k*A
 |0=>(PS.zero_mul A).symm
 |k+1=>by simp only[sP,RC f A k,PS.add_mul]
def LB(f:Nat→PS):∀k,sP f (k+1)=f 0+sP (λi=>f (i+1)) k
 |0=>by simp only[sP];exact PS.add_comm _ _
 |k+1=>by rw[sP,LB f k,sP,PS.add_assoc]
def ajv{m:Int}{f:Nat→PS}{k:Nat}(h:∀i,i<k→Cg m (f i) 0):Cg m (sP f k) 0:=by
 induction k with
 |zero=>exact Cg.refl m _
 |succ k ih=>
  have:=(ih (λi hi=>h i af)).add (h k af)
  rwa[PS.add_zero]at this
def YW(A B:PS):∀n,pw (A+B) n=sP (λk=>PS.K (ch n k)*(pw A k*pw B (n-k))) (n+1)
 |0=>by rw[show sP (λk=>PS.K (ch 0 k)*(pw A k*pw B (0-k))) (0+1)=0+1*(1*1)from ae,PS.zero_add,PS.mul_one,PS.mul_one];rfl
 |n+1=>by
  rw[pw,YW A B n,PS.mul_add,←RC,←RC];rw[LB (λk=>PS.K (ch (n+1) k)*(pw A k*pw B (n+1-k))) (n+1)];have e1:sP (λi=>PS.K (ch (n+1) (i+1))*(pw A (i+1)*pw B (n+1-(i+1)))) (n+1)=sP (λi=>PS.K (ch n i)*(pw A i*pw B (n-i))*A) (n+1)+sP (λi=>PS.K (ch n (i+1))*(pw A (i+1)*pw B (n-i))) (n+1):=by rw[←YV];refine RB (λi _=>?_);rw[show n+1-(i+1)=n-i by omega,ch,ze,PS.qE,PS.add_mul,pw];ac_rfl
  have e2:sP (λi=>PS.K (ch n i)*(pw A i*pw B (n-i))*B) (n+1)=PS.K (ch (n+1) 0)*(pw A 0*pw B (n+1-0))+sP (λi=>PS.K (ch n (i+1))*(pw A (i+1)*pw B (n-i))) (n+1):=by
   rw[LB,show sP (λi=>PS.K (ch n (i+1))*(pw A (i+1)*pw B (n-i))) (n+1)=sP (λi=>PS.K (ch n (i+1))*(pw A (i+1)*pw B (n-i))) n+PS.K (ch n (n+1))*(pw A (n+1)*pw B (n-n))from ae];rw[Af n (n+1) af,sZ,sZ,show PS.K ((0:Nat):Int)=0 from PS.mA,PS.zero_mul,PS.add_zero];have e3:sP (λi=>PS.K (ch n (i+1))*(pw A (i+1)*pw B (n-(i+1)))*B) n=sP (λi=>PS.K (ch n (i+1))*(pw A (i+1)*pw B (n-i))) n:=by refine RB (λi hi=>?_);rw[show n-i=n-(i+1)+1 by omega,pw.eq_2 B];ac_rfl
   rw[e3];have e4:pw B (n+1-0)=pw B (n-0)*B:=rfl;rw[e4];ac_rfl
  rw[e1,e2];ac_rfl
def dH.HB{p:Nat}(h:dH p)(A B:PS):Cg p (pw (A+B) p) (pw A p+pw B p):=by
 rw[YW];obtain⟨n,rfl⟩:∃n,p=n+1:=⟨p-1,by have:=h.1;omega⟩;rw[sP,LB];rw[HA,sZ,show n+1-(n+1)=0 by omega,A9];have e:Cg ((n+1:Nat):Int) (sP (λi=>PS.K (ch (n+1) (i+1))*(pw A (i+1)*pw B (n+1-(i+1)))) n) 0:=by refine ajv (λi hi=>?_);have hd:=h.aju (k:=i+1) af af;have:Cg ((n+1:Nat):Int) (PS.K (ch (n+1) (i+1):Nat)) (PS.K 0):=Cg.K (by rw[df];exact C6 (C8.2 hd));rw[PS.mA]at this;have h3:=this.qF (pw A (i+1)*pw B (n+1-(i+1)));rwa[PS.zero_mul]at h3
 have e1:PS.K ((1:Nat):Int)*(pw A 0*pw B (n+1))=pw B (n+1):=by rw[show PS.K ((1:Nat):Int)=1 from ae,PS.one_mul,show pw A 0=1 from ae,PS.one_mul]
 have e2:PS.K ((1:Nat):Int)*(pw A (n+1)*pw B 0)=pw A (n+1):=by rw[show PS.K ((1:Nat):Int)=1 from ae,PS.one_mul,show pw B 0=1 from ae,PS.mul_one]
 rw[e1,e2];have:=((Cg.refl ((n+1:Nat):Int) (pw B (n+1))).add e).add (Cg.refl _ (pw A (n+1)));rw[PS.add_zero]at this;rw[PS.add_comm (pw A (n+1))];exact this
def RD(a:Int):∀n,pw (PS.K a) n=PS.K (a^n)
 |0=>by rw[wm];rfl
 |n+1=>by rw[pw,RD a n,←PS.sY,fO]
def YX:∀n,pw 1 n=1
 |0=>rfl
 |n+1=>by rw[pw,YX n,PS.mul_one]
def dH.BX{p:Nat}(h:dH p):∀a:Nat,((a:Int)^p)%(p:Int)=(a:Int)%(p:Int)
 |0=>by obtain⟨n,rfl⟩:∃n,p=n+1:=⟨p-1,by have:=h.1;omega⟩;rw[fO];simp
 |a+1=>by
  have ih:=h.BX a;have h1:=(h.HB (PS.K (a:Int)) 1).at 0;rw[show PS.K (a:Int)+1=PS.K ((a+1:Nat):Int)by rw[PS.Es,←PS.qE];rfl,RD,YX,PS.fJ,RD]at h1;have h2:∀c:Int,PS.K c 0=c:=λc=>by simp[PS.K]
  rw[h2,h2,PS.Es,h2,uM,ih,←uM]at h1;exact h1
def dH.YY{p a:Nat}(h:dH p)(ha:¬p∣a):a^(p-1)%p=1:=by
 have h1:=h.BX a;obtain⟨n,rfl⟩:∃n,p=n+1:=⟨p-1,by have:=h.1;omega⟩;have h2:((n+1:Nat):Int)∣(a:Int)*((a:Int)^n-1):=by rw[J8,nm,fc,←fO];exact C7 (AR.1 h1)
 rcases h.RA h2 with e|e
 ·exact absurd (C8.1 e) ha
 ·have h3:((a:Int)^n)%((n+1:Nat):Int)=1%((n+1:Nat):Int):=AR.2 (C6 e);have h4:(1:Int)%((n+1:Nat):Int)=1:=iU ak (by have:=h.1;omega);rw[h4]at h3;simp only[jx];have:((a^n%(n+1):Nat):Int)=1:=xv;omega
def dH.ajw{p x:Nat}(h:dH p)(hx:x<p)(h1:x*x%p=1):x=1∨x=p-1:=by
 have h2:=h.1;have Dx:x≠0:=by intro e;subst e;simp at h1
 have hd:(p:Int)∣((x:Int)-1)*((x:Int)+1):=by
  have e1:x*x=1+p*(x*x/p):=by have:=Nat.mod_add_div (x*x) p;omega
  have e2:(x:Int)*x=1+(p:Int)*((x*x/p:Nat):Int):=by exact_mod_cast e1
  refine⟨((x*x/p:Nat):Int),?_⟩;rw[xK,oX,e2];omega
 rcases h.RA hd with⟨k,e⟩|⟨k,e⟩
 ·left;by_cases hk:k=0
  ·subst hk;omega
  ·exfalso;have:k≥1∨k≤-1:=af;rcases this with hk|hk
   ·have:=ju hk (show(0:Int)≤p by omega);omega
   ·have:=ju hk (show(0:Int)≤p by omega);omega
 ·right;have hk:k=1:=by
   by_cases h0:k≤0
   ·have:=ju h0 (show(0:Int)≤p by omega);omega
   ·by_cases h3:2≤k
    ·have:=ju h3 (show(0:Int)≤p by omega);omega
    ·omega
  subst hk;omega
def dH.inv{p a:Nat}(h:dH p)(ha:¬p∣a):a*(a^(p-2)%p)%p=1:=by rw[Gi,Nat.mod_mod,←Gi];have:=h.YY ha;have h2:=h.1;rwa[show p-1=p-2+1 by omega,iX,g9]at this
end Go.El
namespace Go.El
open Go Go.Proofs
def RE:∀(f r a n p:Nat),n<2^f→r<p→wQ f r a n p=r*a^n%p
 |0,r,a,n,p,h,hr=>by have:n=0:=cd;subst this;rw[wQ,xI,kT,q9 hr]
 |f+1,r,a,n,p,h,hr=>by
  rw[wQ];split
  ·rename_i h0;subst h0;rw[xI,kT,q9 hr]
  ·have hp:0<p:=by omega
   have h2:n/2<2^f:=by rw[iX]at h;omega
   have ea:(a*a%p)^(n/2)%p=a^(2*(n/2))%p:=by rw[←Dm,←Nat.pow_two,zk]
   split
   ·rename_i h1;rw[RE f _ _ _ _ h2 (iq _ hp),Gi,ea,←Gi,Nat.mod_mul_mod];have:a^n=a*a^(2*(n/2)):=by rw[g9,←iX];congr 1;omega
    rw[this,xG]
   ·rename_i h1;rw[RE f _ _ _ _ h2 hr,Gi,ea,←Gi];have:2*(n/2)=n:=af;rw[this]
def LC(a n p:Nat)(hn:n<18446744073709551616)(hp:1<p):Ae a n p=a^n%p:=by rw[Ae,RE _ _ _ _ _ hn (iq _ af),q9 hp,iZ,←Dm]
def ajx(a p:Nat)(iJ:p<18446744073709551616)(hp:1<p):gW a p=a^(p-2)%p:=LC a (p-2) p af hp
set_option maxHeartbeats 2000000 in
def LD(p w:Nat)(hp:dH p)(jI:p≤2147483647)(m7:p%2=1)(hw:¬p∣w)(Gn:w<18446744073709551616):aG Tryz.prog 122 [cU p,cU w] (cB true):=by
 refine aX Tryz.func122 ae ae ae ae ae ak ?_;have iJ:=hp.1;refine rr ae (rr ae ?_);refine YD (α:=Nat×Nat) (λx=>⟨[(0,cU p),(1,cU w),(5,cU x.1),(6,cI x.2)],[],20,[]⟩) (λx=>x.1*2^x.2=p-1∧x.2<32∧x.1%2=1) ?_ (λic=>aK (bA (α:=Nat×Nat) (λx=>⟨[(0,cU p),(1,cU w),(5,cU x.1),(6,cI x.2)],[],4,[]⟩) (λx=>x.1*2^x.2=p-1∧0<x.1) (λx=>x.1) (p-1,0) ⟨by simp,by show 0<p-1;omega⟩ (wk ⟨sR ae,sR ae,sE ae ?_,sR ae,ah⟩ ah) ?_))
 ·rintro⟨o,t⟩ ⟨h1,h2,h3⟩;simp only at h1 h2 h3;have ht:1≤t:=by
   by_cases e:t=0
   ·subst e;simp at h1;omega
   ·omega
  have ho:o≤p-1:=by rw[←h1];exact FW _ (mh ak)
  refine rb (rc ae ae (Rm w o p Gn af af af) (re ae ?_));rw[LC w o p af af];have hx:=iq (w^o) (show 0<p by omega);have hf:(w^o%p)^2^t%p=1:=by rw[←Dm,←zk,h1];exact hp.YY hw
  generalize w^o%p=x at hx hf;refine aj (rb (rg 23 ae ae (λh=>?_) (λh=>?_)))
  ·exact re ae (ax ae (λ_=>rr ae (aF (bW (aL ar ae (au.refl _))))) (λh4=>by cases h4))
  have wy:x≠1:=by have h:=kN h;omega
  have e1:IntKind.wrap .u64 ((p:Int)-1)=((p-1:Nat):Int):=by rw[wrap_u64 _ af af];omega
  refine re ae (ax ae (λh4=>?_) (λh4=>aC (ai ?_)))
  ·exact rr ae (aF (bW (aL ar ae (au.refl _))))
  have D2:x≠p-1:=by have h4:(x:Int)≠IntKind.wrap .u64 ((p:Int)-1):=kN h4;rw[e1]at h4;omega
  refine aj (rr ae (aK (bA (α:=Nat×Nat) (λy=>⟨[(0,cU p),(7,cU y.2),(30,cI ((t:Int)-1)),(31,cI y.1)],[],30,[]⟩) (λy=>y.1≤t-1∧y.2<p∧y.2≠1∧y.2≠p-1∧y.2^2^(t-y.1)%p=1) (λy=>t-1-y.1) (0,x) ⟨bK _,hx,wy,D2,hf⟩ ck ?_)));rintro⟨i,x⟩ ⟨g1,g2,g3,g4,g5⟩;simp only at g1 g2 g3 g4 g5;have qG:∀j,x^2^(j+1)%p=(x*x%p)^2^j%p:=by intro j;rw[←Dm,←Nat.pow_two,←zk];congr 2;rw[iX,g9]
  have nU:=λh=>hp.ajw g2 h
  refine rr ae (aj (ax ae (λh5=>?_) (λh5=>?_)))
  ·have h5:i<t-1:=by have h5:(i:Int)<(t:Int)-1:=bc h5;omega
   have em:(IntKind.wrap .u64 ((x:Int)*(x:Int))).tmod (p:Int)=((x*x%p:Nat):Int):=Hw x x p g2 g2 af;refine aC (ai (aj (aK (rr ae (hp:=aR) (rr ae (ax ae (λh6=>?_) (λh6=>aC (a7 (ai ?_)))))))))
   ·refine rr ae (aF ?_);repeat(first|refine bW ?_|refine fC ?_|refine ix ?_)
    exact aL ar ae (au.refl _)
   ·have h6:(IntKind.wrap .u64 ((x:Int)*(x:Int))).tmod (p:Int)≠IntKind.wrap .u64 ((p:Int)-1):=kN h6;rw[em,e1]at h6;refine rt ae (hp:=aR) (a8 (i+1,x*x%p) ⟨by show i+1≤t-1;omega,iq _ af,λe=>?_,by show x*x%p≠p-1;omega,?_⟩ (by show t-1-(i+1)<t-1-i;omega) (wk ⟨sR ae,sE ae ?_,sR ae,sR ae,ah⟩ ah))
    ·rcases nU e with e|e
     ·exact g3 e
     ·exact g4 e
    ·show(x*x%p)^2^(t-(i+1))%p=1;rw[←qG,show t-(i+1)+1=t-i by omega];exact g5
    ·exact az (λz=>AV.c (C.I .u64 z)) em
  ·exfalso;have h5:i=t-1:=by have h5:¬(i:Int)<(t:Int)-1:=bC h5;omega
   rw[h5,show t-(t-1)=0+1 by omega,qG 0]at g5;simp at g5;rcases nU g5 with e|e
   ·exact g3 e
   ·exact g4 e
 ·refine az (λz=>AV.c (C.I .u64 z)) ?_;show IntKind.wrap .u64 ((p:Int)-1)=((p-1:Nat):Int);rw[wrap_u64 _ af af];omega
 ·rintro⟨o,t⟩ ⟨h1,h2⟩;simp only at h1 h2;have RF:t<32:=by
   by_cases e:t<32
   ·exact e
   ·have h5:2^32≤2^t:=jP ak af;have h6:1*2^t≤o*2^t:=dY _ h2;omega
  have hob:o≤p-1:=by rw[←h1];exact FW _ (mh ak)
  refine aj (rr ae (hp:=aR) (ax ae (λh=>?_) (λh=>?_)))
  ·have h:(o:Int).tmod 2=0:=eq_of_beq h;have e2:(o:Int).tmod 2=((o%2:Nat):Int):=k7 o 2;refine aC (ai (aK (rr ae (hp:=aR) (rt ae (hp:=aR) (a7 (a8 (o/2,t+1) ⟨?_,by show 0<o/2;omega⟩ (by show o/2<o;omega) (wk ⟨sR ae,sR ae,sE ae ?_,sR ae,ah⟩ ah)))))))
   ·show o/2*2^(t+1)=p-1;rw[←h1,iX,g9 (2^t) 2,←xG];congr 1;omega
   ·exact az (λz=>AV.c (C.I .u64 z)) (BU o af)
  ·have h:(o:Int).tmod 2≠0:=kN h;have e2:(o:Int).tmod 2=((o%2:Nat):Int):=k7 o 2;exact bp (bu (br (bq (my (ic (o,t) ⟨h1,RF,by show o%2=1;omega⟩) ck))))
set_option maxHeartbeats 2000000 in
def RH(p:Nat)(hp:dH p)(jI:p≤2147483647):aG Tryz.prog 60 [cU p] (cB true):=by
 refine aX Tryz.func60 ae ae ae ae ae ak ?_;have iJ:=hp.1;refine rr ae (aj (rb (rg 7 ae ae (λh3=>?_) (λh3=>?_))))
 ·exfalso;have h3:(p:Int)<2:=bc h3;omega
 refine re ae (ax ae (λh4=>?_) (λ_=>aC (ai ?_)))
 ·exfalso;have h4:(p:Int)>2147483647:=bc h4;omega
 refine aj (rb (rx ae ae ah (re ae ?_)));refine aK (bA (α:=Nat) (λi=>⟨[(0,cU p),(11,.a [.I .u64 2,.I .u64 3,.I .u64 5,.I .u64 7]),(12,cI i)],[],8,[]⟩) (λi=>i≤4∧(0<i→p%2=1)) (λi=>4-i) 0 ⟨by decide,λh=>absurd h ak⟩ ck ?_);rintro i ⟨hi,ho⟩;rcases(show i=0∨i=1∨i=2∨i=3∨i=4 by omega)with e|e|e|e|e
 ·subst e;refine rr ae (aj (ax ae (λ_=>aC (ai ?_)) (λh=>by cases h)));refine aj (aK (rb (rx ae ae ?_ (re ae (aj (rr ae (hp:=aR) ?_))))))
  ·exact⟨by show(0:Int)≤_;decide,by show(_:Int)<_;decide⟩
  refine ax ae (λh=>?_) (λh=>aC (ai ?_))
  ·have h:(p:Int).tmod 2=0:=eq_of_beq h;have h2:2∣p:=by have h8:(p:Int).tmod 2=((p%2:Nat):Int):=k7 p 2;exact uI af
   have h3:p=2:=by rcases hp.wR h2 with e|e<;>omega
   refine rr ae (aF ?_);repeat(first|refine bW ?_|refine fC ?_|refine ix ?_)
   refine aL ar ae (au.of_eq (az cB ?_));rw[h3];rfl
  ·have h:(p:Int).tmod 2≠0:=kN h;have h2:¬2∣p:=λhd=>h (by have h8:(p:Int).tmod 2=((p%2:Nat):Int):=k7 p 2;have h3:p%2=0:=AX hd;omega)
   have m7:p%2=1:=by have h9:¬p%2=0:=λe=>h2 (uI e);omega
   have kg:¬p∣2:=λhd=>by
    have h5:p≤2:=rf ak hd;have h6:=hp.1;have h7:2%p=0:=AX hd;have rM:p%2≠0:=λe=>h2 (uI e)
    rcases(show p=2∨p=3∨p=4∨p=5∨p=6∨p=7 by omega)with e|e|e|e|e|e<;>subst e<;>first|omega| (simp at h7 rM m7)
   refine rb (rc ae ae (LD p 2 hp jI m7 kg ak) (re ae (ax ae (λh=>by cases h) (λ_=>aC (a7 (ai (rt ae (hp:=aR) (a8 1 ⟨by decide,λ_=>m7⟩ ak ck))))))))
 ·subst e;refine rr ae (aj (ax ae (λ_=>aC (ai ?_)) (λh=>by cases h)));refine aj (aK (rb (rx ae ae ?_ (re ae (aj (rr ae (hp:=aR) ?_))))))
  ·exact⟨by show(0:Int)≤_;decide,by show(_:Int)<_;decide⟩
  refine ax ae (λh=>?_) (λh=>aC (ai ?_))
  ·have h:(p:Int).tmod 3=0:=eq_of_beq h;have h2:3∣p:=by have h8:(p:Int).tmod 3=((p%3:Nat):Int):=k7 p 3;exact uI af
   have h3:p=3:=by rcases hp.wR h2 with e|e<;>omega
   refine rr ae (aF ?_);repeat(first|refine bW ?_|refine fC ?_|refine ix ?_)
   refine aL ar ae (au.of_eq (az cB ?_));rw[h3];rfl
  ·have h:(p:Int).tmod 3≠0:=kN h;have h2:¬3∣p:=λhd=>h (by have h8:(p:Int).tmod 3=((p%3:Nat):Int):=k7 p 3;have h3:p%3=0:=AX hd;omega)
   have m7:p%2=1:=ho ak;have kg:¬p∣3:=λhd=>by
    have h5:p≤3:=rf ak hd;have h6:=hp.1;have h7:3%p=0:=AX hd;have rM:p%3≠0:=λe=>h2 (uI e)
    rcases(show p=2∨p=3∨p=4∨p=5∨p=6∨p=7 by omega)with e|e|e|e|e|e<;>subst e<;>first|omega| (simp at h7 rM m7)
   refine rb (rc ae ae (LD p 3 hp jI m7 kg ak) (re ae (ax ae (λh=>by cases h) (λ_=>aC (a7 (ai (rt ae (hp:=aR) (a8 2 ⟨by decide,λ_=>m7⟩ ak ck))))))))
 ·subst e;refine rr ae (aj (ax ae (λ_=>aC (ai ?_)) (λh=>by cases h)));refine aj (aK (rb (rx ae ae ?_ (re ae (aj (rr ae (hp:=aR) ?_))))))
  ·exact⟨by show(0:Int)≤_;decide,by show(_:Int)<_;decide⟩
  refine ax ae (λh=>?_) (λh=>aC (ai ?_))
  ·have h:(p:Int).tmod 5=0:=eq_of_beq h;have h2:5∣p:=by have h8:(p:Int).tmod 5=((p%5:Nat):Int):=k7 p 5;exact uI af
   have h3:p=5:=by rcases hp.wR h2 with e|e<;>omega
   refine rr ae (aF ?_);repeat(first|refine bW ?_|refine fC ?_|refine ix ?_)
   refine aL ar ae (au.of_eq (az cB ?_));rw[h3];rfl
  ·have h:(p:Int).tmod 5≠0:=kN h;have h2:¬5∣p:=λhd=>h (by have h8:(p:Int).tmod 5=((p%5:Nat):Int):=k7 p 5;have h3:p%5=0:=AX hd;omega)
   have m7:p%2=1:=ho ak;have kg:¬p∣5:=λhd=>by
    have h5:p≤5:=rf ak hd;have h6:=hp.1;have h7:5%p=0:=AX hd;have rM:p%5≠0:=λe=>h2 (uI e)
    rcases(show p=2∨p=3∨p=4∨p=5∨p=6∨p=7 by omega)with e|e|e|e|e|e<;>subst e<;>first|omega| (simp at h7 rM m7)
   refine rb (rc ae ae (LD p 5 hp jI m7 kg ak) (re ae (ax ae (λh=>by cases h) (λ_=>aC (a7 (ai (rt ae (hp:=aR) (a8 3 ⟨by decide,λ_=>m7⟩ ak ck))))))))
 ·subst e;refine rr ae (aj (ax ae (λ_=>aC (ai ?_)) (λh=>by cases h)));refine aj (aK (rb (rx ae ae ?_ (re ae (aj (rr ae (hp:=aR) ?_))))))
  ·exact⟨by show(0:Int)≤_;decide,by show(_:Int)<_;decide⟩
  refine ax ae (λh=>?_) (λh=>aC (ai ?_))
  ·have h:(p:Int).tmod 7=0:=eq_of_beq h;have h2:7∣p:=by have h8:(p:Int).tmod 7=((p%7:Nat):Int):=k7 p 7;exact uI af
   have h3:p=7:=by rcases hp.wR h2 with e|e<;>omega
   refine rr ae (aF ?_);repeat(first|refine bW ?_|refine fC ?_|refine ix ?_)
   refine aL ar ae (au.of_eq (az cB ?_));rw[h3];rfl
  ·have h:(p:Int).tmod 7≠0:=kN h;have h2:¬7∣p:=λhd=>h (by have h8:(p:Int).tmod 7=((p%7:Nat):Int):=k7 p 7;have h3:p%7=0:=AX hd;omega)
   have m7:p%2=1:=ho ak;have kg:¬p∣7:=λhd=>by
    have h5:p≤7:=rf ak hd;have h6:=hp.1;have h7:7%p=0:=AX hd;have rM:p%7≠0:=λe=>h2 (uI e)
    rcases(show p=2∨p=3∨p=4∨p=5∨p=6∨p=7 by omega)with e|e|e|e|e|e<;>subst e<;>first|omega| (simp at h7 rM m7)
   refine rb (rc ae ae (LD p 7 hp jI m7 kg ak) (re ae (ax ae (λh=>by cases h) (λ_=>aC (a7 (ai (rt ae (hp:=aR) (a8 4 ⟨by decide,λ_=>m7⟩ ak ck))))))))
 ·subst e;refine rr ae (aj (ax ae (λh=>by cases h) (λ_=>?_)));exact bp (bu (br (bq (ai (rr ae (aF (aL ar ae (au.refl _))))))))
def ajz(a:List Int)(i:Nat):aG Tryz.prog 133 [cS aM a,cI i] (cU (a.getD i 0)):=by
 refine aX Tryz.func133 ae ae ae ae ae ak ?_;refine rr ae (aj (rr ae (ax ae (λh=>?_) (λh=>aC (ai ?_)))))
 ·have h:(i:Int)<(a.length:Int):=bc h;refine rr ae (hp:=aR) (aF (bW (aL ar ae (au.of_eq (az (λz=>AV.c (C.I .u64 z)) ?_)))));rw[bw]
 ·have h:¬(i:Int)<(a.length:Int):=bC h;refine rr ae (aF (aL ar ae (au.of_eq (az (λz=>AV.c (C.I .u64 z)) ?_))));rw[aY,ni af];rfl
def md(p:Int)(a:List Int):List Int:=a.map (·%p)
def yo(p:Int)(a:List Int):(md p a).length=a.length:=dJ _
def getD_map{f:Int→Int}(hf:f 0=0)(a:List Int)(i:Nat):(a.map f).getD i 0=f (a.getD i 0):=by
 rw[aY,j3,aY];cases a[i]? with
 |none=>exact hf.symm
 |some x=>rfl
def HC(p:Int)(a:List Int)(i:Nat):(md p a).getD i 0=a.getD i 0%p:=getD_map (df p) a i
def BY{p:Int}(hp:0<p)(a:List Int):rp p (md p a):=λi=>by rw[HC];exact⟨gT _ af,il _ hp⟩
def YZ{p:Int}{a:List Int}(h:rp p a):md p a=a:=by refine nP (yo p a) (λi h1 h2=>?_);have:=h i;rw[aY,ct h2,De]at this;simp only[md,si];exact iU this.1 this.2
def px(a:List Int)(i:Nat)(h:i<a.length):a.take (i+1)=a.take i++[a.getD i 0]:=by rw[wc,aY,ct h];rfl
end Go.El
namespace Go.El
def bV(p:Int)(a:List Int):Prop:=rp p a∧can a
def Y0(ws:List Int):∀n i,iI ws n≤i→i<n→ws.getD i 0=0
 |0,i,_,h=>by omega
 |n+1,i,h1,h2=>by
  rw[iI]at h1;split at h1
  ·rename_i h;by_cases e:i=n
   ·rw[e];exact h
   ·exact Y0 ws n i h1 af
  ·omega
def Et(a:List Int)(n i:Nat):(a.take n).getD i 0=if i<n then a.getD i 0 else 0:=by
 rw[aY,ON];split
 ·rw[aY]
 ·rfl
def dz(a:List Int){i:Nat}(h:a.length≤i):a.getD i 0=0:=by rw[aY,ni h];rfl
def BZ(a:List Int):ps (a6 a)=ps a:=PS.ext λi=>by
 rw[dS,dS,a6,Et];split
 ·rfl
 ·rename_i h;by_cases e:i<a.length
  ·exact(Y0 a a.length i af e).symm
  ·exact(dz a af).symm
def RI{p:Int}(hp:0<p){a:List Int}(h:rp p a)(n:Nat):rp p (a.take n):=λi=>by
 rw[Et];split
 ·exact h i
 ·exact⟨jH _,hp⟩
def LF{p:Int}(hp:0<p){a:List Int}(h:rp p a):rp p (a6 a):=RI hp h _
def nC{p:Int}(hp:0<p){a:List Int}(h:rp p a):bV p (a6 a):=⟨LF hp h,Wi a⟩
def vo{p:Int}(hp:0<p):bV p []:=⟨λi=>by simp;exact hp,.inl ae⟩
def vp(a:List Int):(a6 a).length≤a.length:=by unfold a6;rw[fD];omega
def Y1{a:List Int}(h:can a):a6 a=a:=by
 have:iI a a.length=a.length:=by
  cases hl:a.length with
  |zero=>rfl
  |succ n=>
   rw[iI,aq]
   rcases h with h|h
   ·rw[h]at hl;cases hl
   ·rw[hl]at h;exact h
 rw[a6,this,iV]
def bV.top{p:Int}{a:List Int}(h:bV p a){n:Nat}(hn:a.length=n+1):a.getD n 0%p≠0:=by
 rcases h.2 with e|e
 ·rw[e]at hn;cases hn
 ·rw[hn,jx]at e;have:=h.1 n;rw[iU this.1 this.2];exact e
def bV.len{p:Int}{a:List Int}(h:bV p a){n:Nat}(hd:Dl p n (ps a)):a.length≤n:=by
 by_cases e:a.length≤n
 ·exact e
 ·obtain⟨m,hm⟩:∃m,a.length=m+1:=⟨a.length-1,by omega⟩;exact absurd (hd m af) (h.top hm)
def RJ{p:Int}{a b:List Int}(ha:bV p a)(hb:bV p b)(h:Cg p (ps a) (ps b)):a=b:=by have h1:=ha.len ((ke p b).cg h.symm);have h2:=hb.len ((ke p a).cg h);refine nP af (λi h3 h4=>?_);have h5:=h.at i;have h6:=ha.1 i;have h7:=hb.1 i;rw[dS,dS,iU h6.1 h6.2,iU h7.1 h7.2,aY,aY,ct h3,ct h4]at h5;exact h5
def LG(p:Int)(a:List Int):Cg p (ps (md p a)) (ps a):=Cg.of λi=>by rw[dS,dS,HC,kS]
def ud:ps []=0:=PS.ext λi=>by rw[dS,PS.lR];rfl
def ajA{p:Int}{a:List Int}(ha:bV p a)(h:Cg p (ps a) 0):a=[]:=by have:=ha.len (n:=0) ((BW p 0).cg h.symm);exact ik af
def LH{r:List Int}{k:Nat}(v:Int)(h:k<r.length):ps (r.set k v)=ps r+PS.K (v-r.getD k 0)*PS.X k:=PS.ext λi=>by
 rw[PS.fJ,PS.gA,dS,dS,mq _ _ _ _ h];unfold PS.X;split
 ·rename_i e;first
   | (subst e;simp;omega)
   | (rw[e];simp;omega)
 ·rename_i e;rw[aq (λh=>e h.symm)];omega
def Eu(a:List Int)(i:Nat):ps (a.take (i+1))=ps (a.take i)+PS.K (a.getD i 0)*PS.X i:=PS.ext λj=>by
 rw[PS.fJ,PS.gA,dS,dS,Et,Et];unfold PS.X;by_cases h:j<i
 ·rw[aw h,aw af,aq af];omega
 ·by_cases e:j=i
  ·subst e;rw[aw af,aq af,aw ae];omega
  ·rw[aq af,aq af,aq e];omega
def HD(a:List Int):ps (a.take 0)=0:=by rw[OZ,ud]
def B0:ps [1]=1:=PS.ext λi=>by
 cases i with
 |zero=>rfl
 |succ i=>rfl
def RK(n:Nat):ps (List.replicate n 0)=0:=PS.ext λi=>by rw[dS,PS.lR,aY,mM];split<;>rfl
def Cg.RL{p a b:Int}(h:a%p=b%p)(A:PS):Cg p (PS.K a*A) (PS.K b*A):=(Cg.K h).qF A
def Y2(a b:List Int)(p:Int)(i:Nat)(r:List Int):∀j,i+j≤r.length→Cg p (ps (vj a b p i j r)) (ps r+PS.K (a.getD i 0)*PS.X i*ps (b.take j))
 |0,_=>by rw[vj,HD,PS.mul_zero,PS.add_zero];exact Cg.refl _ _
 |j+1,h=>by
  have ih:=Y2 a b p i r j af;rw[vj,LH _ (by rw[Lm];omega),Eu,PS.mul_add,←PS.add_assoc];refine ih.add ?_;have e:PS.K (a.getD i 0)*PS.X i*(PS.K (b.getD j 0)*PS.X j)=PS.K (a.getD i 0*b.getD j 0)*PS.X (i+j):=by rw[PS.sY,PS.Lw];ac_rfl
  rw[e];refine Cg.RL ?_ _;rw[xJ,kS,←xJ];congr 1;omega
def Y3(a b:List Int)(p:Int):∀i,i≤a.length→Cg p (ps (qD a b p i)) (ps (a.take i)*ps b)
 |0,_=>by rw[qD,RK,HD,PS.zero_mul];exact Cg.refl _ _
 |i+1,h=>by have ih:=Y3 a b p i af;have h2:=Y2 a b p i (qD a b p i) b.length (by rw[Ln];omega);rw[iV]at h2;rw[qD,Eu,PS.add_mul];exact h2.trans (ih.oI _)
def wS(a b:List Int)(p:Int):Cg p (ps (eC a b p)) (ps a*ps b):=by
 unfold eC;split
 ·rename_i h;rcases h with h|h
  ·rw[h,ud,PS.zero_mul];exact Cg.refl _ _
  ·rw[h,ud,PS.mul_zero];exact Cg.refl _ _
 ·rw[BZ];have:=Y3 a b p a.length (bF _);rwa[iV]at this
def nD{p:Int}(hp:0<p)(a b:List Int):bV p (eC a b p):=by
 unfold eC;split
 ·exact vo hp
 ·exact nC hp (Rp a b hp _)
def HE(a b:List Int)(p:Int):(eC a b p).length≤a.length+b.length-1:=by
 unfold eC;split
 ·exact bK _
 ·have:=vp (qD a b p a.length);rwa[Ln]at this
def B1{p:Int}{A:PS}:∀{m:Nat},Dl p m A→Cg p A 0∨∃d,d<m∧A d%p≠0∧Dl p (d+1) A
 |0,h=> .inl (ajr h)
 |m+1,h=>by
  by_cases e:A m%p=0
  ·rcases B1 (m:=m) (A:=A) (p:=p) (λi hi=>by
    by_cases e2:i=m
    ·rw[e2];exact e
    ·exact h i af)with h1|⟨d,h1,h2,h3⟩
   ·exact .inl h1
   ·exact .inr ⟨d,by omega,h2,h3⟩
  ·exact .inr ⟨m,by omega,e,h⟩
def yp{p:Nat}(hp:dH p){A B:PS}{d e:Nat}(hA:Dl p (d+1) A)(hB:Dl p (e+1) B)(ha:A d%p≠0)(hb:B e%p≠0):(A*B) (d+e)%(p:Int)≠0:=by rw[hA.top hB];exact hp.oJ ha hb
def Y4{p:Nat}(hp:dH p){D B:PS}{m n:Nat}(hD:Dl p m D)(hB:Dl p (n+1) B)(hb:B n%p≠0)(h:Dl p n (D*B)):Cg p D 0:=by
 rcases B1 hD with h1|⟨d,h1,h2,h3⟩
 ·exact h1
 ·exact absurd (h (d+n) af) (yp hp h3 hB h2 hb)
def Y5{p:Nat}(hp:dH p){Q R Q' R' B:PS}{m n:Nat}(hB:Dl p (n+1) B)(hb:B n%p≠0)(hQ:Dl p m Q)(hQ':Dl p m Q')(hR:Dl p n R)(hR':Dl p n R')(h:Cg p (Q*B+R) (Q'*B+R')):Cg p Q Q'∧Cg p R R':=by
 have e:Cg p ((Q-Q')*B) (R'-R):=by
  have h1:(Q-Q')*B=(Q*B+R)+ -(Q'*B+R):=by rw[PS.sub_def,PS.add_mul,PS.neg_mul,PS.neg_add];have:Q*B+R+(-(Q'*B)+ -R)=Q*B+ -(Q'*B)+(R+ -R):=kI;rw[this,PS.add_neg,PS.add_zero]
  have h2:R'-R=(Q'*B+R')+ -(Q'*B+R):=by rw[PS.sub_def,PS.neg_add];have:Q'*B+R'+(-(Q'*B)+ -R)=Q'*B+ -(Q'*B)+(R'+ -R):=kI;rw[this,PS.add_neg,PS.zero_add]
  rw[h1,h2];exact h.oI _
 have h0:=Y4 hp (hQ.sub hQ') hB hb ((hR'.sub hR).cg e.symm);have hQQ:Cg p Q Q':=by have:=h0.oI Q';have e1:Q-Q'+Q'=Q:=VG;rwa[e1,PS.zero_add]at this
 refine⟨hQQ,?_⟩;have h3:Cg p (R'-R) 0:=by have:=h0.qF B;rw[PS.zero_mul]at this;exact e.symm.trans this
 have:=h3.oI R;have e1:R'-R+R=R':=VG;rw[e1,PS.zero_add]at this;exact this.symm
def ajE{p:Nat}(hp:dH p){A B:PS}{m n:Nat}(hA:Dl p m A)(hB:Dl p n B)(h:Cg p (A*B) 1):Dl p 1 A:=by
 have rM:¬(1:Int)%(p:Int)=0:=by have:=hp.1;rw[iU ak af];decide
 have h0:¬Cg p (A*B) 0:=λe=>rM (by have:=(e.symm.trans h).at 0;rw[PS.lR,df]at this;exact this.symm)
 rcases B1 hA with h1|⟨d,_,h2,h3⟩
 ·exact absurd (by have:=h1.qF B;rwa[PS.zero_mul]at this) h0
 ·rcases B1 hB with h4|⟨e,_,h5,h6⟩
  ·exact absurd (by have:=h4.vn A;rwa[PS.mul_zero]at this) h0
  ·have h7:=yp hp h3 h6 h2 h5;rw[h.at (d+e)]at h7;by_cases e0:d=0
   ·subst e0;exact h3
   ·exact absurd (Lz (p:Int) (d+e) af) h7
def PS.sub_add_cancel(A B:PS):A-B+B=A:=VG
def PS.add_sub_cancel(A B:PS):A+B-B=A:=by rw[PS.sub_def,PS.add_assoc,PS.add_neg,PS.add_zero]
def Y6(b:List Int)(p c:Int)(i:Nat)(r:List Int):∀j,i+j≤r.length→Cg p (ps (vk b p c i j r)) (ps r-PS.K c*PS.X i*ps (b.take j))
 |0,_=>by rw[vk,HD,PS.mul_zero,PS.sub_def,PS.neg_zero,PS.add_zero];exact Cg.refl _ _
 |j+1,h=>by
  have ih:=Y6 b p c i r j af;have e:ps r-PS.K c*PS.X i*ps (b.take (j+1))=(ps r-PS.K c*PS.X i*ps (b.take j))+PS.K (-(c*b.getD j 0))*PS.X (i+j):=by
   rw[Eu,PS.mul_add,PS.sub_def,PS.neg_add,PS.sub_def,←PS.add_assoc];congr 1;have e2:PS.K c*PS.X i*(PS.K (b.getD j 0)*PS.X j)=PS.K (c*b.getD j 0)*PS.X (i+j):=by rw[PS.sY,PS.Lw];ac_rfl
   rw[e2,PS.neg_eq,←PS.mul_assoc,←PS.sY];congr 2;omega
  rw[vk,LH _ (by rw[Lo];omega),e];refine ih.add (Cg.RL ?_ _);rw[xJ,kS,←xJ,show∀x:Int,x+(p-c)*b.getD j 0-x= -(c*b.getD j 0)+p*b.getD j 0 by intro x;rw[xK];omega,JO]
structure DvI(a b:List Int)(p:Int)(m n k:Nat)(x:List Int×List Int):Prop where
 cg:Cg p (ps a) (ps x.1*ps b+ps x.2)
 dl:Dl p (n+(m-k)) (ps x.2)
 z:∀j,j<m-k→x.1.getD j 0=0
def Y7{p:Int}{a b:List Int}{v:Int}{n m:Nat}(hb:b.length=n+1)(ha:a.length=n+m)(hv:b.getD n 0*v%p=1%p):∀k,k≤m→DvI a b p m n k (iQ a b p v m n k)
 |0,_=>by
  refine⟨?_,?_,λj hj=>?_⟩
  ·rw[iQ,RK,PS.zero_mul,PS.zero_add];exact Cg.refl _ _
  ·rw[iQ,A9,←ha];exact ke p a
  ·rw[iQ,aY,mM];split<;>rfl
 |k+1,hk=>by
  have ih:=Y7 hb ha hv k af;have hl:=Lp a b p v m n k;obtain⟨i,hi⟩:∃i,m=i+(k+1):=⟨m-(k+1),by omega⟩;have ei:m-(k+1)=i:=af;rw[iQ,ei];generalize hx:iQ a b p v m n k=x at*;generalize hc:x.2.getD (i+n) 0*v%p=c;have hd:=Y6 b p c i x.2 b.length af;rw[iV]at hd;have hz:x.1.getD i 0=0:=ih.z i af;have hq:ps (x.1.set i c)=ps x.1+PS.K c*PS.X i:=by rw[LH c af,hz,Di]
  refine⟨?_,?_,λj hj=>?_⟩
  ·simp only;rw[hq];have h1:ps x.1*ps b+ps x.2=(ps x.1+PS.K c*PS.X i)*ps b+(ps x.2-PS.K c*PS.X i*ps b):=by rw[PS.add_mul,PS.sub_def];have:ps x.1*ps b+PS.K c*PS.X i*ps b+(ps x.2+ -(PS.K c*PS.X i*ps b))=ps x.1*ps b+ps x.2+(PS.K c*PS.X i*ps b+ -(PS.K c*PS.X i*ps b)):=kI;rw[this,PS.add_neg,PS.add_zero]
   exact(ih.cg.trans (Cg.of_eq h1)).trans (hd.symm.Ry _)
  ·simp only;refine Dl.cg (λj hj=>?_) hd.symm;rw[PS.yn,PS.mul_assoc,PS.gA,PS.pt];by_cases e:j=n+i
   ·subst e;rw[aw af,show n+i-i=n by omega,dS,dS,←hc,J4 i n];generalize x.2.getD (n+i) 0=y;rw[xJ,mR,kS,←mR,j5,fc v,mR,hv,←mR,nm,J5,df]
   ·have h1:=ih.dl j af;have h2:=ke p b (j-i) af;rw[aw af,xJ,h1,mR,h2,eo,df];rfl
  ·simp only;rw[mq _ _ _ _ af];split
   ·omega
   ·exact ih.z j af
def Ag{p:Nat}(hp:dH p)(dj:p≤2147483648){x:Int}(h0:0≤x)(hx:x<p)(hn:x≠0):x*((gW x.toNat ((p:Nat):Int).toNat:Nat):Int)%(p:Int)=1:=by
 obtain⟨y,rfl⟩:=C5 h0;have h2:=hp.1;rw[bw,bw,ajx y p af af];have h3:¬p∣y:=λhd=>by have:=rf af hd;omega
 have h4:=hp.inv h3;rw[←gq];omega
def ajG{p:Int}{r:List Int}{n:Nat}(h:rp p r)(hd:Dl p n (ps r)):ps (r.take n)=ps r:=PS.ext λi=>by
 rw[dS,dS,Et];split
 ·rfl
 ·have h1:=hd i af;have h2:=h i;rw[dS,iU h2.1 h2.2]at h1;exact h1.symm
def k8{p:Nat}(hp:dH p)(dj:p≤2147483648){a b:List Int}(ha:rp p a)(hb:bV p b)(et:b≠[]):
  Cg p (ps a) (ps (bM a b p).1*ps b+ps (bM a b p).2)∧rp p (bM a b p).1∧rp p (bM a b p).2∧(bM a b p).2.length≤b.length-1∧(bV p a→bV p (bM a b p).2)∧(bM a b p).1.length=a.length-(b.length-1):=by
 have h2:=hp.1
 have cK:(0:Int)<(p:Int):=af
 obtain⟨n,hn⟩:∃n,b.length=n+1:=⟨b.length-1,by have:=cX.2 et;omega⟩
 rw[bM,hn,jx]
 by_cases h:a.length≤n
 ·rw[aw h];refine⟨?_,(vo cK).1,ha,h,λhc=>hc,?_⟩
  ·rw[ud,PS.zero_mul,PS.zero_add];exact Cg.refl _ _
  ·show 0=_;omega
 ·rw[aq h];obtain⟨m,hm⟩:∃m,a.length=n+m:=⟨a.length-n,by omega⟩;rw[hm,FX];have tE:=hb.1 n;have HG:b.getD n 0≠0:=by have:=hb.top hn;exact λe=>this FT
  have hv:=Ag hp dj tE.1 tE.2 HG;generalize ((gW (b.getD n 0).toNat ((p:Nat):Int).toNat:Nat):Int)=v at*;have hI:=Y7 (p:=p) (v:=v) hn hm (by rw[hv,iU ak af]) m (bF _);have hl:=Lp a b p v m n m;have hr:=Rt b v m n cK ha m;have hd:=hI.dl;rw[iG,j6]at hd;refine⟨?_,hr.1,LF cK (RI cK hr.2 n),?_,λ_=>nC cK (RI cK hr.2 n),hl.1⟩
  ·simp only;rw[BZ,ajG hr.2 hd];exact hI.cg
  ·simp only;have:=vp ((iQ a b p v m n m).2.take n);rw[fD]at this;omega
def py(p:Int):Nat→List Int→List Int→List Int
 |0,f,_=>f
 |k+1,f,g=>if g=[]then f else py p k g (bM f g p).2
def lS(p:Int)(a:List Int):List Int:=if a=[]then[]else eC a [((gW (a.getD (a.length-1) 0).toNat p.toNat:Nat):Int)] p
def gh(p:Int)(f g:List Int):List Int:=lS p (py p (g.length+1) f g)
def aW(p:Int)(A:PS):Prop:=∃n,Dl p n A
def aW.add{p:Int}{A B:PS}(h:aW p A)(k:aW p B):aW p (A+B):=by obtain⟨n,h⟩:=h;obtain⟨m,k⟩:=k;exact⟨max n m,(h.le af).add (k.le af)⟩
def aW.neg{p:Int}{A:PS}(h:aW p A):aW p (-A):=by obtain⟨n,h⟩:=h;exact⟨n,h.neg⟩
def aW.sub{p:Int}{A B:PS}(h:aW p A)(k:aW p B):aW p (A-B):=by rw[PS.sub_def];exact h.add k.neg
def aW.mul{p:Int}{A B:PS}(h:aW p A)(k:aW p B):aW p (A*B):=by obtain⟨n,h⟩:=h;obtain⟨m,k⟩:=k;exact⟨n+m,h.mul' k⟩
def aW.ps(p:Int)(a:List Int):aW p (ps a):=⟨_,ke p a⟩
def aW.K(p c:Int):aW p (PS.K c):=⟨_,Rz p c⟩
def aW.zero(p:Int):aW p 0:=⟨0,BW p 0⟩
def aW.one(p:Int):aW p 1:=⟨1,Lz p⟩
def aW.cg{p:Int}{A B:PS}(h:aW p A)(k:Cg p A B):aW p B:=by obtain⟨n,h⟩:=h;exact⟨n,h.cg k⟩
def gi(p:Int)(A B:PS):Prop:=∃U V,aW p U∧aW p V∧Cg p (U*A+V*B) 1
def gi.symm{p:Int}{A B:PS}(h:gi p A B):gi p B A:=by obtain⟨U,V,h1,h2,h3⟩:=h;exact⟨V,U,h2,h1,by rw[PS.add_comm];exact h3⟩
def gi.cg{p:Int}{A B A' B':PS}(h:gi p A B)(ka:Cg p A A')(kb:Cg p B B'):gi p A' B':=by obtain⟨U,V,h1,h2,h3⟩:=h;exact⟨U,V,h1,h2,((ka.vn U).add (kb.vn V)).symm.trans h3⟩
def gi.step{p:Int}{A B Q R:PS}(h:gi p A B)(hQ:aW p Q)(e:Cg p A (Q*B+R)):gi p B R:=by
 obtain⟨U,V,h1,h2,h3⟩:=h;refine⟨U*Q+V,U,(h1.mul hQ).add h2,h1,?_⟩;have:(U*Q+V)*B+U*R=U*(Q*B+R)+V*B:=by simp only[PS.mul_add,PS.add_mul];ac_rfl
 rw[this];exact((e.symm.vn U).oI _).trans h3
def gi.ajH{p:Int}{A B Q R:PS}(h:gi p B R)(hQ:aW p Q)(e:Cg p A (Q*B+R)):gi p A B:=by
 obtain⟨U,V,h1,h2,h3⟩:=h;refine⟨V,U-V*Q,h2,h1.sub (h2.mul hQ),?_⟩;have e1:V*(Q*B+R)+(U-V*Q)*B=U*B+V*R:=by rw[PS.mul_add,PS.sub_def,PS.add_mul,PS.neg_mul];have:V*(Q*B)+V*R+(U*B+ -(V*Q*B))=(U*B+V*R)+(V*Q*B+ -(V*Q*B)):=kI;rw[this,PS.add_neg,PS.add_zero]
 exact((e.vn V).oI _).trans ((Cg.of_eq e1).trans h3)
def LI{p:Nat}(hp:dH p)(dj:p≤2147483648):∀(k:Nat)(f g:List Int),bV p f→bV p g→g.length<k→bV p (py p k f g)∧(gi p (ps f) (ps g)↔(py p k f g).length=1)∧(py p k f g).length≤max f.length g.length
 |0,_,_,_,_,h=>by omega
 |k+1,f,g,hf,hg,h=>by
  rw[py];have h2:=hp.1;split
  ·rename_i e;subst e;refine⟨hf,⟨λhc=>?_,λhl=>?_⟩,by omega⟩
   ·obtain⟨U,V,hU,hV,hc⟩:=hc;rw[ud,PS.mul_zero,PS.add_zero,PS.mul_comm]at hc;obtain⟨m,hU⟩:=hU;have h3:=hf.len (ajE hp (ke p f) hU hc);by_cases e:f.length=0
    ·exfalso;have:=ik e;subst this;rw[ud,PS.zero_mul]at hc;have:=hc.at 0;rw[PS.lR,df]at this;have h4:(1:Int)%(p:Int)=1:=iU ak af;have h5:(0:Int)=1%(p:Int):=this;omega
    ·omega
   ·have h3:=hf.top (n:=0) af;have h4:=hf.1 0;have h5:f.getD 0 0≠0:=λe=>h3 FT
    have h6:=Ag hp dj h4.1 h4.2 h5;refine⟨PS.K ((gW (f.getD 0 0).toNat ((p:Nat):Int).toNat:Nat):Int),0,aW.K _ _,aW.zero _,?_⟩;rw[PS.zero_mul,PS.add_zero];have e1:ps f=PS.K (f.getD 0 0):=PS.ext λi=>by
     unfold PS.K;split
     ·rename_i e;subst e;rfl
     ·exact dz f af
    rw[e1,←PS.sY,PS.Es,fc];exact Cg.K (by rw[h6,iU ak af])
  ·rename_i e;obtain⟨d1,d2,d3,d4,d5,d6⟩:=k8 hp dj hf.1 hg e;have hl:=cX.2 e;obtain⟨i1,i2,i3⟩:=LI hp dj k g (bM f g p).2 hg (d5 hf) af;refine⟨i1,⟨λhc=>i2.1 (hc.step (aW.ps _ _) d1),λh=>(i2.2 h).ajH (aW.ps _ _) d1⟩,by omega⟩
def RM{p:Nat}(hp:dH p)(dj:p≤2147483648){a:List Int}(ha:bV p a)(h0:a≠[]):bV p (lS p a)∧(lS p a).length=a.length∧(lS p a).getD (a.length-1) 0=1∧Cg p (ps (lS p a)) (ps a*PS.K ((gW (a.getD (a.length-1) 0).toNat ((p:Nat):Int).toNat:Nat):Int))∧Cg p (ps a) (ps (lS p a)*PS.K (a.getD (a.length-1) 0)):=by
 have h2:=hp.1;obtain⟨n,hn⟩:∃n,a.length=n+1:=⟨a.length-1,by have:=cX.2 h0;omega⟩;have hb:=ha.1 n;have HG:a.getD n 0≠0:=λe=>ha.top hn FT
 have hv:=Ag hp dj hb.1 hb.2 HG;rw[lS,aq h0,hn,jx];generalize ((gW (a.getD n 0).toNat ((p:Nat):Int).toNat:Nat):Int)=v at*;have Ah:ps [v]=PS.K v:=PS.ext λi=>by
  cases i with
  |zero=>rfl
  |succ i=>rfl
 have h3:=wS a [v] p;rw[Ah]at h3;have h4:=nD (show(0:Int)<p by omega) a [v];have yf:(ps (eC a [v] p)) n%(p:Int)=1:=by rw[h3.at n,PS.mul_comm,PS.gA,fc,dS];exact hv
 have Y8:n<(eC a [v] p).length:=by
  by_cases e:n<(eC a [v] p).length
  ·exact e
  ·rw[dS,dz _ af]at yf;simp at yf
 have HH:=HE a [v] p;have hl:(eC a [v] p).length=n+1:=by simp only[fk,mc]at HH;omega
 refine⟨h4,hl,?_,h3,?_⟩
 ·have h5:=h4.1 n;rw[dS,iU h5.1 h5.2]at yf;exact yf
 ·refine Cg.symm ((h3.qF _).trans ?_);rw[PS.mul_assoc,←PS.sY,fc v];have:Cg p (ps a*PS.K (a.getD n 0*v)) (ps a*PS.K 1):=(Cg.K (by rw[hv,iU ak af])).vn _;rw[←PS.Es,PS.mul_one]at this;exact this
def RN{p:Nat}(hp:dH p)(dj:p≤2147483648){f g:List Int}(hf:bV p f)(hg:bV p g):(gh p f g).length=1↔gi p (ps f) (ps g):=by
 obtain⟨h1,h2,h3⟩:=LI hp dj (g.length+1) f g hf hg (fN _);rw[h2,gh];by_cases e:py p (g.length+1) f g=[]
 ·rw[e,lS,aw ae]
 ·rw[(RM hp dj h1 e).2.1]
end Go.El
namespace Go.El
open Go Go.Proofs
def ajI(x:Int):ps [x]=PS.K x:=PS.ext λi=>by
 cases i with
 |zero=>rfl
 |succ i=>rfl
def wT{p x:Int}(h0:0≤x)(h1:x<p):rp p [x]:=λi=>by
 cases i with
 |zero=>exact⟨h0,h1⟩
 |succ i=>exact⟨jH _,by show(0:Int)<p;omega⟩
def Y9(a b:List Int)(la:a.length≤1000000):aG Tryz.prog 13 [cS aM a,cS aM b] (cB (decide (a=b))):=by
 refine aX Tryz.func13 ae ae ae ae ae ak ?_;refine rr ae (aj (rr ae (ax ae (λh=>?_) (λh=>aC (ai ?_)))))
 ·have h:=qA h;refine rr ae (aF (bW (aL ar ae (au.of_eq (az cB ?_)))));rw[kq (λe=>h se)]
 ·have h:=qC h;have hl:a.length=b.length:=af;refine aj (rr ae (aK (bA (α:=Nat) (λi=>⟨[(0,cS aM a),(1,cS aM b),(5,cI i)],[],4,[]⟩) (λi=>i≤a.length∧a.take i=b.take i) (λi=>a.length-i) 0 ⟨bK _,by simp⟩ ck ?_)));rintro i ⟨hi,ht⟩;refine aj (rr ae (ax ae (λh2=>?_) (λh2=>?_)))
  ·have h2:i<a.length:=by have h2:(i:Int)<(a.length:Int):=bc h2;omega
   refine aC (ai (aj (aK (rr ae (hp:=aR) (ax ae (λh3=>?_) (λh3=>aC (a7 (ai ?_))))))))
   ·have h3:a.getD i 0≠b.getD i 0:=qA h3;refine rr ae (aF ?_);repeat(first|refine bW ?_|refine fC ?_|refine ix ?_)
    refine aL ar ae (au.of_eq (az cB ?_));rw[kq (λe=>h3 se)]
   ·have h3:a.getD i 0=b.getD i 0:=qC h3;exact rt ae (a8 (i+1) ⟨h2,by rw[px a i h2,px b i af,ht,h3]⟩ pQ ck)
  ·have h2:i=a.length:=by have h2:¬(i:Int)<(a.length:Int):=bC h2;omega
   subst h2;rw[iV,lD af]at ht;refine bp (bu (br (bq (ai (rr ae (aF (aL ar ae (au.of_eq (az cB ?_)))))))));rw[ov ht]
def RO(a:List Int)(p:Int)(la:a.length≤1000)(cK:0<p)(hp:p<18446744073709551616)(ha:∀i,0≤a.getD i 0):aG Tryz.prog 61 [cS aM a,cU p] (aP (a6 (md p a)) p):=by
 refine aX Tryz.func61 ae ae ae ae ae ak ?_;have vi:p≠0:=af;have Hu:=yo p a;refine rr ae (rb (rm aM a.length ae ae ae ae ae ae (lN .u64) ae ?_ ?_ (re ae (aj (rr ae ?_)))))
 ·show _*8≤_;omega
 ·show _*1≤_;omega
 refine aK (bA (α:=Nat) (λi=>⟨[(0,cS aM a),(1,cU p),(4,.c (.P 0 0)),(5,.c (.X 1002000)),(11,cI a.length),(12,cI i)],[(0,.box 101 0 [.V (.slice none 0 0),.I .u64 0]),(1002000,.vec 25 aM ((md p a).take i++List.replicate (a.length-i) 0))],3,[]⟩) (λi=>i≤a.length) (λi=>a.length-i) 0 (bK _) (wk ⟨sR ae,sR ae,sR ae,sR ae,sR ae,sR ae,ah⟩ ⟨bE ae ae,bE ae ?_,ah⟩) ?_)
 ·simp
 intro i hi;have hl:((md p a).take i).length=i:=cO;have sX:((md p a).take i++List.replicate (a.length-i) (0:Int)).length=a.length:=cO;refine rr ae (aj (ax ae (λh=>?_) (λh=>?_)))
 ·have h:i<a.length:=by have h:(i:Int)<(a.length:Int):=bc h;omega
  refine aC (ai (aj (aK (rr ae (rt ae (hp:=aR) (a7 (ai (rt ae (a8 (i+1) h pQ (wk ⟨sR ae,sR ae,sR ae,sR ae,sR ae,sR ae,ah⟩ ⟨bE ae ae,bE ae ?_,ah⟩))))))))));refine az (aJ.vec 25 aM) ?_;have e2:=Lh ((md p a).take i) (a.length-(i+1)) (a.getD i 0%p);rw[hl,show a.length-(i+1)+1=a.length-i by omega]at e2;rw[bw,qZ (ha i),e2,px _ i af,HC]
 ·have h:i=a.length:=by have h:¬(i:Int)<(a.length:Int):=bC h;omega
  subst h;rw[iG,wa,kp,lD af];exact bp (bu (br (bq (ai (fS 1002000 ae ae ae (rb (rc ae ae (Ep (md p a) p af) (re ae (aF (aL ar ae (au.refl _)))))))))))
def HI{x:Int}(h:x≠0):a6 [x]=[x]:=Y1 (.inr h)
def Ai(f:List Int)(n p:Int)(cK:0<p)(hp:p<18446744073709551616)(hn:0≤n)(LJ:n<p):aG Tryz.prog 125 [aP f p,cU n] (aP (a6 [n]) p):=by refine aX Tryz.func125 ae ae ae ae ae ak ?_;have hr:=RO [n] p be cK hp (λi=>(wT hn LJ i).1);rw[YZ (wT hn LJ)]at hr;exact rr ae (rb (rl aM [_] ae ae (rc ae ae hr (re ae (aF (aL ar ae (au.refl _)))))))
def Y'{p:Nat}(hp:dH p){a:List Int}(ha:bV p a)(h0:a≠[]):0≤a.getD (a.length-1) 0∧a.getD (a.length-1) 0<p∧a.getD (a.length-1) 0≠0∧(0≤((gW (a.getD (a.length-1) 0).toNat ((p:Nat):Int).toNat:Nat):Int)∧((gW (a.getD (a.length-1) 0).toNat ((p:Nat):Int).toNat:Nat):Int)<p):=by have h2:=hp.1;have hl:=cX.2 h0;have tE:=ha.1 (a.length-1);refine⟨tE.1,tE.2,λe=>ha.top (n:=a.length-1) af FT,?_⟩;have:=Rl (a.getD (a.length-1) 0).toNat (p-2) p af;rw[gW,bw];omega
def Za(p:Nat)(hp:dH p)(dj:p≤2147483648)(a:List Int)(la:a.length≤500)(ha:bV p a):aG Tryz.prog 62 [aP a p] (aP (lS p a) p):=by
 refine aX Tryz.func62 ae ae ae ae ae ak ?_;have h2:=hp.1;have cK:(0:Int)<(p:Int):=af;refine rr ae (aj (rr ae (ax ae (λh=>?_) (λh=>aC (ai ?_)))))
 ·have h:(a.length:Int)=0:=eq_of_beq h;have h0:a=[]:=ik af;subst h0;exact rr ae (aF (bW (aL ar ae (au.refl _))))
 ·have h:(a.length:Int)≠0:=kN h;have h0:a≠[]:=λe=>h (by rw[e];rfl)
  have hl:=cX.2 h0;have a2:((a.length:Int)-1).toNat=a.length-1:=af;obtain⟨m1,m2,m3,m4⟩:=Y' hp ha h0;have hinv:=Lq (a.getD (a.length-1) 0) p ⟨m1,m2⟩ m3 af af;have ajJ:aG Tryz.prog 124 [cU (a.getD ((a.length:Int)-1).toNat 0),cU p] (.t [(false,[.I .u64 (gW (a.getD (a.length-1) 0).toNat ((p:Nat):Int).toNat:Nat)]),(false,[.I .i64 0])]):=by rw[a2];exact hinv
  have hm:=RM hp dj ha h0;have ku:=Ag hp dj m1 m2 m3;refine rb (rc ae ae (tZ a p af) (rc ae ae ajJ (hp:=aR) (re ae ?_)));have ed:lS p a=eC a [((gW (a.getD (a.length-1) 0).toNat ((p:Nat):Int).toNat:Nat):Int)] p:=by rw[lS,aq h0]
  generalize ((gW (a.getD (a.length-1) 0).toNat ((p:Nat):Int).toNat:Nat):Int)=v at*;have oG:v≠0:=λe=>by rw[e,eo,df]at ku;cases ku
  have hc:=Ai a v p cK af m4.1 m4.2;rw[HI oG]at hc;have ht:=Hy a [v] p af be cK af ha.1 (wT m4.1 m4.2);rw[←ed]at ht;exact rb (rc ae ae hc (rc ae ae ht (re ae (aF (aL ar ae (au.refl _))))))
def ajK{a:List Int}(h:a≠[]):∃x t,a=x::t:=by
 cases a with
 |nil=>exact absurd ae h
 |cons x t=>exact⟨x,t,ae⟩
def yq(p:Nat)(hp:dH p)(dj:p≤2147483648)(a b:List Int)(la:a.length≤1000)(lb:b.length≤1000)(ha:rp p a)(hb:bV p b)(B2:a≠[])(et:b≠[]):aG Tryz.prog 127 [aP a p,aP b p] (.t [(true,[.S aM (bM a b p).1,.I .u64 p]),(true,[.S aM (bM a b p).2,.I .u64 p])]):=by have h2:=hp.1;obtain⟨x,t,e⟩:=ajK B2;have hl:=cX.2 et;exact ajp x t b p e la lb af af ha hb.1 et (λe=>hb.top (n:=b.length-1) af FT)
def LK(p:Nat)(hp:dH p)(dj:p≤2147483648)(a b:List Int)(la:a.length≤500)(lb:b.length≤500)(ha:bV p a)(hb:bV p b)(B2:a≠[]):aG Tryz.prog 92 [aP a p,aP b p] (aP (gh p a b) p):=by
 refine aX Tryz.func92 ae ae ae ae ae ak ?_;refine rr ae (aj (aK (bA (α:=Nat×List Int×List Int) (λx=>⟨[(2,.c (.P 0 0)),(3,.c (.P 1000 0)),(4,.c (.P 2000 0))],[(0,.box 101 0 [.S aM x.2.1,.I .u64 p]),(1000,.box 101 0 [.S aM x.2.2,.I .u64 p]),(2000,.box 101 0 [.V (.slice none 0 0),.I .u64 0])],1,[]⟩) (λx=>py p x.1 x.2.1 x.2.2=py p (b.length+1) a b∧x.2.2.length<x.1∧bV p x.2.1∧bV p x.2.2∧x.2.1.length≤500∧x.2.2.length≤500∧x.2.1≠[]) (λx=>x.2.2.length) (b.length+1,a,b) ⟨ae,fN _,ha,hb,la,lb,B2⟩ (wk ⟨sR ae,sR ae,sR ae,ah⟩ ⟨bE ae ae,bE ae ae,bE ae ae,ah⟩) ?_)));rintro⟨k,f,g⟩ ⟨h1,h2,h3,h4,h5,h6,h7⟩;simp only at h1 h2 h3 h4 h5 h6 h7;cases k with
 |zero=>omega
 |succ k=>
 rw[py]at h1;refine aj (rr ae (ax ae (λh=>?_) (λh=>?_)))
 ·have h0:g≠[]:=by have h:(g.length:Int)>0:=bc h;intro e;rw[e]at h;simp at h
  rw[aq h0]at h1;obtain⟨d1,d2,d3,d4,d5,d6⟩:=k8 hp dj h3.1 h4 h0;have hl:=cX.2 h0;exact aC (ai (aK (rb (rc ae ae (yq p hp dj f g af af h3.1 h4 h7 h0) (re ae (rt ae (a7 (a8 (k,g,(bM f g p).2) ⟨h1,by show(bM f g p).2.length<k;omega,h4,d5 h3,h6,by show(bM f g p).2.length≤500;omega,h0⟩ (by show(bM f g p).2.length<g.length;omega) (wk ⟨sR ae,sR ae,sR ae,ah⟩ ⟨bE ae ae,bE ae ae,bE ae ae,ah⟩)))))))))
 ·have h0:g=[]:=by have h:¬(g.length:Int)>0:=bC h;exact ik af
  rw[aw h0]at h1;refine bp (bu (br (bq (ai (rb (rc ae ae (Za p hp dj f h5 h3) (re ae (aF (aL ar ae (au.of_eq ?_))))))))));rw[gh,←h1];rfl
def js(f:List Int)(s:Int)(g:List Int)(p:Int):List Int:=(List.range (max f.length g.length)).map λi=>if i<g.length then(f.getD i 0+s*g.getD i 0)%p else f.getD i 0
def LL(f:List Int)(s:Int)(g:List Int)(p:Int):(js f s g p).length=max f.length g.length:=by simp[js]
def RP(f:List Int)(s:Int)(g:List Int)(p:Int)(i:Nat):(js f s g p).getD i 0=if i<g.length then(f.getD i 0+s*g.getD i 0)%p else f.getD i 0:=by
 unfold js;rw[aY,j3];by_cases h:i<max f.length g.length
 ·rw[ot h];rfl
 ·rw[ni cO,aq af,dz f af];rfl
def HJ{p:Int}(hp:0<p){f:List Int}(hf:rp p f)(s:Int)(g:List Int):rp p (js f s g p):=λi=>by
 rw[RP];split
 ·exact⟨gT _ af,il _ hp⟩
 ·exact hf i
def Zb(f:List Int)(s:Int)(g:List Int)(p:Int):Cg p (ps (js f s g p)) (ps f+PS.K s*ps g):=Cg.of λi=>by
 rw[dS,RP,PS.fJ,PS.gA,dS,dS];split
 ·rw[kS]
 ·rename_i h;rw[dz g af,eo,nl]
set_option maxHeartbeats 2000000 in
def RQ(f:List Int)(s:Int)(g:List Int)(p:Int)(lf:f.length≤1000)(lg:g.length≤1000)(cK:0<p)(hp:p≤2147483648)(hf:rp p f)(hg:rp p g)(hs:0≤s∧s<p)(aN:f≠[]∨g≠[]):aG Tryz.prog 233 [aP f p,cU s,aP g p] (aP (a6 (js f s g p)) p):=by
 refine aX Tryz.func233 ae ae ae ae ae ak ?_;have vi:p≠0:=af;generalize hM:max f.length g.length=M;have hM0:0<M:=by
  rcases aN with e|e
  ·have:=cX.2 e;omega
  ·have:=cX.2 e;omega
 have hL:=LL f s g p;have tX:=RP f s g p;have hLr:=HJ cK hf s g;generalize js f s g p=L at*;refine rr ae (rb (rm aM M ae ae ae ae ae ae (lN .u64) (by rw[aw ae];split<;>omega) ?_ ?_ (re ae ?_)))
 ·show _*8≤_;omega
 ·show _*1≤_;omega
 refine rb (G9 ae ae ae ae ae Ot (λe=>by have:=az List.length e;rw[jv]at this;simp at this;omega) (re ae ?_));refine aj (rr ae ?_);refine aK (bA (α:=Nat) (λi=>⟨[(1,cU s),(3,.c (.P 0 0)),(5,.c (.P 1000 0)),(6,.c (.P 2000 0)),(7,.c (.X 1007000)),(23,cI g.length),(24,cI i)],[(0,.box 101 0 [.S aM f,.I .u64 p]),(1000,.box 101 0 [.S aM g,.I .u64 p]),(2000,.box 101 0 [.V (.slice none 0 0),.I .u64 0]),(1007000,.vec 25 aM (L.take i++(f++List.replicate (M-f.length) 0).drop i))],5,[]⟩) (λi=>i≤g.length) (λi=>g.length-i) 0 (bK _) (wk ⟨sR ae,sR ae,sR ae,sR ae,sR ae,sR ae,sR ae,ah⟩ ⟨bE ae ae,bE ae ae,bE ae ae,bE ae ?_,ah⟩) ?_)
 ·refine az (aJ.vec 25 aM) ?_;simp
 intro i hi;have hl:(L.take i).length=i:=cO;have hF:∀j,(f++List.replicate (M-f.length) (0:Int)).getD j 0=f.getD j 0:=λj=>by
  rw[aY,List.getElem?_append];split
  ·rw[←aY]
  ·rw[mM,dz f af];split<;>rfl
 have HK:(f++List.replicate (M-f.length) (0:Int)).length=M:=cO;generalize f++List.replicate (M-f.length) (0:Int)=F at*;have sX:(L.take i++F.drop i).length=M:=cO;have lQ:(L.take i++F.drop i).getD i 0=f.getD i 0:=by rw[aY,y8 af,hl,iG,tv,j6,←aY,hF]
 refine rr ae (aj (ax ae (λh=>?_) (λh=>?_)))
 ·have h:i<g.length:=by have h:(i:Int)<(g.length:Int):=bc h;omega
  refine aC (ai (aj (aK (rr ae (rt ae (hp:=aR) (a7 (ai (rt ae (a8 (i+1) h (by show g.length-(i+1)<g.length-i;omega) (wk ⟨sR ae,sR ae,sR ae,sR ae,sR ae,sR ae,sR ae,ah⟩ ⟨bE ae ae,bE ae ae,bE ae ae,bE ae ?_,ah⟩))))))))));refine az (aJ.vec 25 aM) ?_;have hx:=YO (f.getD i 0) s (g.getD i 0) p (hf i) hs (hg i) hp;show(L.take i++F.drop i).set (i:Int).toNat _=_;rw[bw];refine Eq.trans (az ((L.take i++F.drop i).set i) (show _=L.getD i 0 from ?_)) ?_
  ·show(IntKind.wrap .u64 ((L.take i++F.drop i).getD (i:Int).toNat 0+IntKind.wrap .u64 (s*g.getD (i:Int).toNat 0))).tmod p=_;rw[bw,lQ,hx,tX,aw h]
  ·rw[px L i af,nj];conv=>lhs;rw[pS _ _ af,hl,iG,pR af,Dd]
   rfl
 ·have h:i=g.length:=by have h:¬(i:Int)<(g.length:Int):=bC h;omega
  subst h;have e:L.take g.length++F.drop g.length=L:=by
   refine nP (by rw[sX];omega) (λj h1 h2=>?_);have:(L.take g.length++F.drop g.length).getD j 0=L.getD j 0:=by
    rw[aY,List.getElem?_append,hl];split
    ·rename_i hj;rw[C3 hj,←aY]
    ·rename_i hj;rw[tv,show g.length+(j-g.length)=j by omega,←aY,hF,tX,aq hj]
   rw[aY,aY,ct h1,ct h2]at this;exact this
  rw[e];exact bp (bu (br (bq (ai (fS 1007000 ae ae ae (rb (rc ae ae (Ep L p af) (re ae (aF (aL ar ae (au.refl _)))))))))))
end Go.El
