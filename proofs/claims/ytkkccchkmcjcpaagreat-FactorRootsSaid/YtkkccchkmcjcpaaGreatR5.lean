/- Contracts: integers of the reference: division. Own work; no condition. -/
import Derived.Test.YtkkccchkmcjcpaaGreatR4
import Derived.Test.YtkkccchkmcjcpaaGreatR3
import Derived.Test.YtkkccchkmcjcpaaGreatR1
set_option linter.defProp false
set_option linter.unusedVariables false
set_option linter.unusedSimpArgs false
set_option linter.unnecessarySimpa false
namespace Go.El
open Go Go.Proofs
def aiH{k n:Nat}(hn:(ay k).length=n+2){b1:Int}(eb:b1=(ay k).getD (n+1) 0){d:Nat}(ed:(d:Int)=4294967296/(b1+1)):
  1≤b1∧b1<4294967296∧1≤d∧d<4294967296∧((k*d:Nat):Int)<4294967296^(n+2)∧(ay (k*d)).length=n+2∧2147483648≤(ay (k*d)).getD (n+1) 0:=by
 have hr:=cZ (eH k) (n+1)
 have hc:=uO k
 have b0:b1≠0:=by
  rcases hc with e|e
  ·rw[e]at hn;simp at hn
  ·rw[hn]at e;rw[eb];exact e
 rw[←eb]at hr
 have hd:=oU 4294967296 (b1+1)
 have jq:=gT 4294967296 (show b1+1≠0 by omega)
 have hm:=il 4294967296 (show 0<b1+1 by omega)
 have ht:=aiC (b1:=b1) af hr.2
 rw[←ed]at hd ht
 have d1:(1:Int)≤d:=by
  by_cases e:(1:Int)≤d
  ·exact e
  ·have:(d:Int)=0:=by omega
   rw[this]at ht;simp at ht
 have d2:(d:Int)<4294967296:=by have:2*(d:Int)≤(b1+1)*d:=jD af af;omega
 have hv:=QY hn
 rw[eT,←eb]at hv
 have l1:=nR (jQ (eH k) n)
 rw[show((ay k).take n).length=n by simp;omega]at l1
 have l0:=mi (jQ (eH k) n)
 have p6:=cZ (eH k) n
 have hp:=jR n
 generalize (ay k).getD n 0=b2 at*
 generalize val ((ay k).take n)=b' at*
 have hM:(4294967296:Int)^(n+1)=4294967296^n*4294967296:=qu n
 have k1:b1*4294967296^(n+1)≤(k:Int):=by have:(b1*4294967296)*4294967296^n≤(b1*4294967296+b2)*4294967296^n:=jD af af;rw[hM,show b1*(4294967296^n*4294967296)=b1*4294967296*4294967296^n by rw[fc (4294967296^n),j5]];omega
 have k2:(k:Int)<(b1+1)*4294967296^(n+1):=by
  have h1:(b1*4294967296+b2+1)*4294967296^n≤(b1*4294967296+4294967296)*4294967296^n:=jD af af;have h2:(b1*4294967296+b2+1)*4294967296^n=(b1*4294967296+b2)*4294967296^n+4294967296^n:=by rw[lF _ 1,iY]
  have h3:(b1*4294967296+4294967296)*4294967296^n=(b1+1)*(4294967296^n*4294967296):=by generalize (4294967296:Int)^n=y;grind
  rw[hM,←h3];omega
 have Yq:=jR (n+1)
 have kd:((k*d:Nat):Int)<4294967296^(n+2):=by
  rw[gq,qu];have h1:(k:Int)*d<(b1+1)*4294967296^(n+1)*d:=JN k2 af;have h2:(b1+1)*4294967296^(n+1)*d=4294967296^(n+1)*((b1+1)*d):=by generalize (4294967296:Int)^(n+1)=y;grind
  have h3:4294967296^(n+1)*((b1+1)*d)≤4294967296^(n+1)*4294967296:=ju af af;omega
 have hl:(ay (k*d)).length=n+2:=by have h1:(ay (k*d)).length≤n+2:=Be kd;have h2:=sU (m:=k) (k:=k*d) (FW _ af);omega
 refine⟨by omega,hr.2,by omega,by omega,kd,hl,?_⟩
 have sr:=QY hl
 have l2:=nR (jQ (eH (k*d)) n)
 rw[show((ay (k*d)).take n).length=n by simp;omega]at l2
 have GY:=cZ (eH (k*d)) n
 have hr4:=cZ (eH (k*d)) (n+1)
 rw[eT,gq]at sr
 generalize (ay (k*d)).getD n 0=c2 at*
 generalize (ay (k*d)).getD (n+1) 0=c1 at*
 generalize val ((ay (k*d)).take n)=c' at*
 by_cases e:2147483648≤c1
 ·exact e
 ·exfalso;have h1:(c1*4294967296+c2+1)*4294967296^n≤(c1*4294967296+4294967296)*4294967296^n:=jD af af;have h2:(c1*4294967296+c2+1)*4294967296^n=(c1*4294967296+c2)*4294967296^n+4294967296^n:=by rw[lF _ 1,iY]
  have h3:(c1*4294967296+4294967296)*4294967296^n=(c1+1)*4294967296^(n+1):=by rw[hM];generalize (4294967296:Int)^n=y;grind
  have h4:b1*4294967296^(n+1)*d≤(k:Int)*d:=jD k1 af;have h5:(c1+1)*4294967296^(n+1)≤b1*d*4294967296^(n+1):=jD af af;have h6:b1*4294967296^(n+1)*d=b1*d*4294967296^(n+1):=by generalize (4294967296:Int)^(n+1)=y;grind
  omega
def Yr{U:List Int}{j:Nat}{ws Ed:List Int}(h:j+ws.length≤U.length)(hl:Ed.length=ws.length):cV (cV U j ws) j Ed=cV U j Ed:=by unfold cV;rw[show(U.take j++(ws++U.drop (j+ws.length))).take j=U.take j from Yf h,hl];have hj:(U.take j).length=j:=cO;rw[List.drop_append,hj,JQ af,wh,show j+ws.length-j=ws.length by omega,List.drop_left'];rfl
set_option maxHeartbeats 8000000 in
def aiI(m k n:Nat)(hn:(ay k).length=n+2)(ri:k≤m)(lm:(ay m).length≤1099511627776):aG Tryz.prog 152 [cS aE (ay m),cS aE (ay k)] (.t [(false,[.S aE (ay (m/k))]),(false,[.S aE (ay (m%k))])]):=by
 refine aX Tryz.func152 ae ae ae ae ae ak ?_;generalize jl:(ay k).getD (n+1) 0=b1;obtain⟨d,hd⟩:∃d:Nat,(d:Int)=4294967296/(b1+1):=⟨(4294967296/(b1+1)).toNat,F5 (xB ak (by have:=cZ (eH k) (n+1);omega))⟩;obtain⟨f1,f2,f3,f4,f5,f6,f7⟩:=aiH hn jl.symm hd;have gM:0<k:=by
  rcases wb k with e|e
  ·subst e;rw[Dt]at hn;simp at hn
  ·exact e
 have Ef:n+2≤(ay m).length:=by rw[←hn];exact sU ri
 obtain⟨M,hM⟩:∃M,(ay m).length=M+(n+2):=⟨(ay m).length-(n+2),by omega⟩;have Q6:((m*d:Nat):Int)<4294967296^(M+(n+2)+1):=by have h1:=uP (n:=m);rw[hM]at h1;rw[qu,gq];have:=jR (M+(n+2));have h2:(m:Int)*d≤(m:Int)*4294967296:=ju af af;omega
 have asi:(ay (m*d)).length≤M+(n+2)+1:=Be Q6;have Ho:¬dn (m:Int) (k:Int)<0:=by unfold dn;rw[aq af];split<;>decide
 refine rr ae (aj (rb (rc ae ae (Hi m k) (re ae (ax ae (λh=>absurd cd Ho) (λ_=>aC (ai ?_)))))));refine aj (rr ae (ax ae (λh=>?_) (λ_=>aC (ai ?_))))
 ·exfalso;have h:((ay k).length:Int)=1:=cd;omega
 have a2:(((ay k).length:Int)-1).toNat=n+1:=af;have x1:IntKind.wrap .u64 (IntKind.wrap .u64 ((ay k).getD (((ay k).length:Int)-1).toNat 0)+1)=b1+1:=by rw[a2,jl,wrap_u64 b1 af af,wrap_u64 _ af af]
 have x2:IntKind.wrap .u64 ((4294967296:Int).tdiv (IntKind.wrap .u64 (IntKind.wrap .u64 ((ay k).getD (((ay k).length:Int)-1).toNat 0)+1)))=(d:Int):=by rw[x1,Eh ak,←hd,wrap_u64 _ af af]
 refine rr ae (rr ae (hp:=by simp only[Pr.an,Pr.h,num,aA,true_and,and_true];rw[x1];omega) ?_);refine dv (st':=⟨[(0,cS aE (ay m)),(1,cS aE (ay k)),(8,cI ((n+2:Nat):Int)),(9,cU d)],[],5,[]⟩) (wk ⟨sR ae,sR ae,⟨_,ae,au.of_eq (az (λz:Nat=>cI (z:Int)) hn)⟩,⟨_,ae,au.of_eq (az (λz=>AV.c (C.I .u64 z)) x2)⟩,ah⟩ ah) ?_;refine rb (rc ae ae (BO d af) (rc ae ae (QF k d af (by have:=zZ (m:=d) af;omega)) (re ae ?_)));refine rb (rm aE ((ay m).length+1) ae ae ae ae ae ae (lN .u32) af ?_ ?_ (re ae ?_))
 ·show _*4≤_;omega
 ·show _*1≤_;omega
 refine rb (rc ae ae (BO d af) (rc ae ae (QF m d af (by have:=zZ (m:=d) af;omega)) ?_));refine G9 ae ae ae ae ae Ot be (re ae ?_);generalize wN:ay (m*d)++(List.replicate ((ay m).length+1) (0:Int)).drop (ay (m*d)).length=U0;refine rb (rm aE (M+1) ae ae ae ae ae ae (lN .u32) af ?_ ?_ (re ae ?_))
 ·show _*4≤_;omega
 ·show _*1≤_;omega
 have Hp:val U0=((m*d:Nat):Int):=by rw[←wN,Ds,eT,show(List.replicate ((ay m).length+1) (0:Int)).drop (ay (m*d)).length=List.replicate ((ay m).length+1-(ay (m*d)).length) 0 by simp,wq];simp
 have Hq:bT U0:=by rw[←wN];exact Pb (eH _) (zq (so _) _)
 have Q7:U0.length=M+(n+2)+1:=by rw[←wN];simp;omega
 have oG:(0:Int)<((k*d:Nat):Int):=by have:0<k*d:=zj gM af;omega
 have Q8:vf ((m*d:Nat):Int) ((k*d:Nat):Int) (n+2) M (M+1,U0,List.replicate (M+1) 0):=by
  refine⟨bF _,Q7,Hq,?_,by simp,so _,λi hi=>?_,?_⟩
  ·show val (U0.drop (M+1))<_;have h1:=z6 U0 (M+1) af;have h2:=mi (jQ Hq (M+1));have hp:=jR (M+1);by_cases e:val (U0.drop (M+1))<((k*d:Nat):Int)
   ·exact e
   ·exfalso;have h3:4294967296^(M+1)*((k*d:Nat):Int)≤4294967296^(M+1)*val (U0.drop (M+1)):=ju af af;have h4:=J' (eH k) (uO k) (by intro e;rw[e]at hn;simp at hn);rw[eT,hn,show n+2-1=n+1 by omega]at h4;have h5:=uP (n:=m);rw[hM,show M+(n+2)=M+1+(n+1)by omega,Int.pow_add]at h5;have h6:4294967296^(M+1)*4294967296^(n+1)*(d:Int)≤4294967296^(M+1)*((k*d:Nat):Int):=by rw[gq,j5];exact ju (jD h4 af) af
    have h7:(m:Int)*d<4294967296^(M+1)*4294967296^(n+1)*(d:Int):=JN h5 af;rw[Hp,gq m d]at h1;omega
  ·show(List.replicate (M+1) (0:Int)).getD i 0=0;rw[aY,mM];split<;>rfl
  ·show _=val U0+_*val (List.replicate (M+1) 0);rw[wq,Hp];omega
 refine aj (rr ae ?_);refine aK (bA (α:=Nat×List Int×List Int) (λx=>⟨[(8,cI ((n+2:Nat):Int)),(9,cU d),(10,cS aE (ay (k*d))),(11,.c (.X 6003000)),(12,.c (.X 8005000)),(13,cI ((x.1:Int)-1))],[(6003000,.vec 23 aE x.2.1),(8005000,.vec 23 aE x.2.2)],10,[]⟩) (vf ((m*d:Nat):Int) ((k*d:Nat):Int) (n+2) M) (λx=>x.1) (M+1,U0,List.replicate (M+1) 0) Q8 (wk ⟨sR ae,sR ae,sR ae,sR ae,sR ae,sE ae ?_,ah⟩ ⟨bR ae,bR ae,ah⟩) ?_)
 ·exact az cI af
 rintro⟨c,U,Q⟩ hI;have iN:U.length=M+(n+2)+1:=hI.ul;have qk:bT U:=hI.ur;have rI:Q.length=M+1:=hI.ql;have hck:c≤M+1:=hI.k;refine aj (rr ae ?_);refine ax ae (λh=>?_) (λh=>?_)
 ·have h:(c:Int)-1≥0:=by simpa using h
  obtain⟨j,rfl⟩:∃j,c=j+1:=⟨c-1,by omega⟩;have ej:((j+1:Nat):Int)-1=(j:Int):=af;rw[ej];have z7:=hI.next oG f5;obtain⟨_,mU⟩:=hI.QZ f5;have hK:=Yk (U:=U) (v:=ay (k*d)) (j:=j) (n:=n) qk (eH _) f6 af f7 (by rw[eT];exact mU);have ku:=cZ (eH (k*d)) (n+1);have hg:=K4 hK 2 ((U.getD (j+(n+2)) 0*4294967296+U.getD (j+(n+1)) 0)/(ay (k*d)).getD (n+1) 0) ((U.getD (j+(n+2)) 0*4294967296+U.getD (j+(n+1)) 0)%(ay (k*d)).getD (n+1) 0);have z5:=hK.first;generalize Hk:(ay (k*d)).getD (n+1) 0=v1 at hg ku f7 z5;generalize hte:U.getD (j+(n+2)) 0*4294967296+U.getD (j+(n+1)) 0=t at hg z5;have uY:=gT t (show v1≠0 by omega);have nU:=il t (show 0<v1 by omega);have hg:=hg (by have h1:=oU t v1;have h2:=fc (t/v1) v1;omega) uY af af z5;rw[←hte,←Hk]at hg;have qw:=aiv U (ay (k*d)) j n qk (eH _) f6 af af hK;have nA:=hK.q0;generalize sV 2 ((U.getD (j+(n+2)) 0*4294967296+U.getD (j+(n+1)) 0)/(ay (k*d)).getD (n+1) 0) ((U.getD (j+(n+2)) 0*4294967296+U.getD (j+(n+1)) 0)%(ay (k*d)).getD (n+1) 0) ((ay (k*d)).getD (n+1) 0) ((ay (k*d)).getD n 0) (U.getD (j+n) 0)=q at*;rw[eT]at hg nA;have yh:=aiy U (ay (k*d)) j (n+3) q qk (eH _) af af af hg.2.2 af;rw[eT]at yh;rw[show n+2+1=n+3 from ae]at z7 mU;generalize hu:val ((U.drop j).take (n+3))=u at*;have qv:=oU u ((k*d:Nat):Int);have jq:=gT u (show((k*d:Nat):Int)≠0 by omega);have qi:=il u oG;generalize hv:((k*d:Nat):Int)=v at*;refine aC (ai (aj (aK ?_)));refine rb (X4 j (j+(n+3)) ae ae ae ae ae ae af af (by show j+(n+3)≤U.length;omega) (re ae ?_))
  refine dv (st':=⟨[(8,cI ((n+2:Nat):Int)),(9,cU d),(10,cS aE (ay (k*d))),(11,.c (.X 6003000)),(12,.c (.X 8005000)),(13,cI j),(14,.c (.W 6003000 j (n+3)))],[(6003000,.vec 23 aE U),(8005000,.vec 23 aE Q)],12,[]⟩) (wk ⟨sR ae,sR ae,sR ae,sR ae,sR ae,sR ae,⟨_,ae,au.of_eq (az (λz=>AV.c (C.W 6003000 j z)) af)⟩,ah⟩ ⟨bR ae,bR ae,ah⟩) ?_;refine rb (nX 6003000 ae qw ae ae (re ae ?_));refine aj (rb (nX 6003000 ae yh ae ae (re ae ?_)));have po:∀x,(bY (n+3) x).length=n+3:=λx=>tV _ _
  refine ax ae (λh=>?_) (λh=>?_)
  ·have h:u-q*v<0:=by simpa using h
   have Em:q=u/v+1:=by
    by_cases e:q=u/v
    ·subst e;have:=fc (u/v) v;omega
    ·omega
   have Q9:q*v=v*(u/v)+v:=by rw[Em,lF,iY,fc]
   have hr:bT (cV U j (bY (n+3) (u-q*v))):=QV qk (Hl _ _);have fG:=aiz (cV U j (bY (n+3) (u-q*v))) (ay (k*d)) j (n+3) hr (eH _) (by rw[ye vY];omega) af (by rw[ye vY];omega);have e1:cV (cV U j (bY (n+3) (u-q*v))) j (bY (n+3) (val (((cV U j (bY (n+3) (u-q*v))).drop j).take (n+3))+val (ay (k*d))))=cV U j (bY (n+3) (u%v)):=by rw[Yr vY (by rw[po,po]),QW vY,AS vY,lD vY,Hm,eT,hv];refine az (cV U j) (K6 _ _ _ ?_);rw[Int.emod_add_emod];congr 1;omega
   rw[e1]at fG;have w1:IntKind.wrap .u64 (q-1)=u/v:=by rw[wrap_u64 _ af af];omega
   refine rr ae (cG (nX 6003000 ae fG ae ae (re ae (ai ?_))));refine dv (st':=⟨[(8,cI ((n+2:Nat):Int)),(9,cU d),(10,cS aE (ay (k*d))),(11,.c (.X 6003000)),(12,.c (.X 8005000)),(13,cI j),(15,cU (u/v))],[(6003000,.vec 23 aE (cV U j (bY (n+3) (u%v)))),(8005000,.vec 23 aE Q)],16,[]⟩) (wk ⟨sR ae,sR ae,sR ae,sR ae,sR ae,sR ae,⟨_,ae,au.of_eq (az (λz=>AV.c (C.I .u64 z)) w1)⟩,ah⟩ ⟨bR ae,bR ae,ah⟩) ?_;refine rt ae (hp:=jN) ?_;refine a7 (ai (rt ae (a8 (j,cV U j (bY (n+3) (u%v)),Q.set j (u/v)) z7 (fN j) (wk ⟨sR ae,sR ae,sR ae,sR ae,sR ae,sR ae,ah⟩ ⟨bR ae,bE ae ?_,ah⟩))));refine az (aJ.vec 23 aE) ?_;show Q.set (j:Int).toNat (IntKind.wrap .u32 (u/v))=Q.set j (u/v);rw[bw,wrap_u32 _ af af]
  ·have h:¬u-q*v<0:=by simpa using h
   have Em:q=u/v:=by
    by_cases e:q=u/v
    ·exact e
    ·exfalso;have e2:q=u/v+1:=af;have Q9:q*v=v*(u/v)+v:=by rw[e2,lF,iY,fc]
     omega
   have e1:u-q*v=u%v:=by have:=fc (u/v) v;rw[Em];omega
   refine aC (ai ?_);refine dv (st':=⟨[(8,cI ((n+2:Nat):Int)),(9,cU d),(10,cS aE (ay (k*d))),(11,.c (.X 6003000)),(12,.c (.X 8005000)),(13,cI j),(15,cU (u/v))],[(6003000,.vec 23 aE (cV U j (bY (n+3) (u%v)))),(8005000,.vec 23 aE Q)],16,[]⟩) (wk ⟨sR ae,sR ae,sR ae,sR ae,sR ae,sR ae,⟨_,ae,au.of_eq (az (λz=>AV.c (C.I .u64 z)) Em)⟩,ah⟩ ⟨⟨_,ae,dd.of_eq (az (λz=>aJ.vec 23 aE (cV U j (bY (n+3) z))) e1)⟩,bR ae,ah⟩) ?_;refine rt ae (hp:=jN) ?_;refine a7 (ai (rt ae (a8 (j,cV U j (bY (n+3) (u%v)),Q.set j (u/v)) z7 (fN j) (wk ⟨sR ae,sR ae,sR ae,sR ae,sR ae,sR ae,ah⟩ ⟨bR ae,bE ae ?_,ah⟩))));refine az (aJ.vec 23 aE) ?_;show Q.set (j:Int).toNat (IntKind.wrap .u32 (u/v))=Q.set j (u/v);rw[bw,wrap_u32 _ af af]
 ·have h:¬(c:Int)-1≥0:=by simpa using h
  have hc:c=0:=af;subst hc;obtain⟨e1,e2⟩:=hI.fin;have hmul:∀x:Nat,((x*d:Nat):Int)=(x:Int)*(d:Int):=λx=>gq x d
  have q1:a6 Q=ay (m/k):=by
   rw[pX hI.qr];show ay (val Q).toNat=_;rw[e1];have:((m*d:Nat):Int)/((k*d:Nat):Int)=((m/k:Nat):Int):=by rw[←A2,Nat.mul_div_mul_right _ _ af]
   rw[this,bw]
  have q2:ay (val (a6 U)/(d:Int)).toNat=ay (m%k):=by
   rw[Wg];show ay (val U/(d:Int)).toNat=_;rw[e2];have:((m*d:Nat):Int)%((k*d:Nat):Int)/(d:Int)=((m%k:Nat):Int):=by rw[←Gb,Nat.mul_mod_mul_right,←A2,V6 _ af]
   rw[this,bw]
  have tW:=Yb (a6 U) (d:Int) (Wh qk) af af (by
   have h2:(a6 U).length≤n+2:=by rw[pX qk];apply Be;have h3:val U<((k*d:Nat):Int):=hI.ub;have h4:=mi qk;omega
   omega)
  rw[q2]at tW;refine bp (bu (br (bq (ai (fS 6003000 ae ae ae (fS 8005000 ae ae ae ?_))))));refine rb (rc ae ae (zY U) (rc ae ae tW (re ae ?_)));refine rb (rc ae ae (zY Q) (re ae (aF (aL ar ae (au.of_eq ?_)))));rw[q1]
def Ys(m k:Nat)(hk:k≠0)(lm:(ay m).length≤1099511627776):aG Tryz.prog 152 [cS aE (ay m),cS aE (ay k)] (.t [(false,[.S aE (ay (m/k))]),(false,[.S aE (ay (m%k))])]):=by
 by_cases h:m<k∨k<4294967296
 ·exact Yc m k hk h lm
 ·have h1:2≤(ay k).length:=by
   by_cases e:2≤(ay k).length
   ·exact e
   ·exfalso;have h2:=uP (n:=k);have h3:=uQ (m:=(ay k).length) (n:=1) af;rw[Gg]at h3;omega
  exact aiI m k ((ay k).length-2) af af lm
def aiL(a b:Int)(hb:b≠0)(ha:Sm a)(nT:Sm b):aG Tryz.prog 81 [aZ a,aZ b] (.t [(true,av .z (a/b)),(true,av .z (a%b)),(false,[.I .i64 0])]):=by
 refine aX Tryz.func81 ae ae ae ae ae ak ?_;refine rr ae (aj (rr ae ?_));have dm:b.natAbs≠0:=af;refine ax ae (λh2=>?_) (λh2=>?_)
 ·exfalso;have h2:((cY b).length:Int)=0:=gR;have:=m6.2 dm;unfold cY at h2;omega
 ·refine aC (ai (rb (rc ae ae (Ys _ _ dm ha) (re ae (aj (rb ?_))))));refine rg 25 ae ae (λh3=>?_) (λh3=>?_)
  ·have h3:a<0:=by simpa[bN]using h3
   refine re ae (ax ae (λh4=>?_) (λh4=>?_))
   ·have h4:a.natAbs%b.natAbs≠0:=by have h4:((ay (a.natAbs%b.natAbs)).length:Int)>0:=uH;exact m6.1 af
    obtain⟨e1,e2⟩:=QL (pT dm) h3 h4;have hz:bN a=true:=y5;obtain⟨e3,e4⟩:=yd a b (a.natAbs/b.natAbs+1) (b.natAbs-a.natAbs%b.natAbs) y6 e2;have hr:a.natAbs%b.natAbs<b.natAbs:=iq _ (pT dm);refine rb (rl aE [_] ae ae (rc ae ae (QE (a.natAbs/b.natAbs) 1 ?_ ak) (re ae (cG (rc ae ae (K1 b.natAbs _ af nT) (re ae (ai (rb ?_))))))))
    ·exact dG (sU (Df _ _)) ha
    refine rc ae ae (mr _ _) (rc ae ae (mr _ _) (re ae (aF (aL ar ae (au.of_eq ?_)))));rw[e3,e4];rfl
   ·have h4:a.natAbs%b.natAbs=0:=by have h4:¬((ay (a.natAbs%b.natAbs)).length:Int)>0:=uH;exact Decidable.byContradiction λaN=>by have:=m6.2 aN;omega
    obtain⟨e1,e2⟩:=QK (pT dm) h3 h4;have hz:bN a=true:=y5;obtain⟨e3,e4⟩:=yd a b (a.natAbs/b.natAbs) (a.natAbs%b.natAbs) y6 (by rw[e2,h4];rfl);refine aC (ai (rb (rc ae ae (mr _ _) (rc ae ae (mr _ _) (re ae (aF (aL ar ae (au.of_eq ?_))))))));rw[e3,e4];rfl
  ·have h3:¬a<0:=by simpa[bN]using h3
   refine re ae (ax ae (λh4=>by simp at h4) (λh4=>?_));obtain⟨e1,e2⟩:=QJ (pT dm) h3;have hz:bN a=false:=y5;obtain⟨e3,e4⟩:=yd a b (a.natAbs/b.natAbs) (a.natAbs%b.natAbs) y6 e2;refine aC (ai (rb (rc ae ae (mr _ _) (rc ae ae (mr _ _) (re ae (aF (aL ar ae (au.of_eq ?_))))))));rw[e3,e4];rfl
def aiM(m k:Nat)(lm:(ay m).length≤1099511627776)(lk:(ay k).length≤1099511627776):aG Tryz.prog 151 [cS aE (ay m),cS aE (ay k)] (cS aE (ay (Nat.gcd m k))):=by
 refine aX Tryz.func151 ae ae ae ae ae ak ?_;refine rr ae (aj (aK (bA (α:=Nat×Nat) (λx=>⟨[(0,cS aE (ay x.1)),(1,cS aE (ay x.2))],[],1,[]⟩) (λx=>Nat.gcd x.1 x.2=Nat.gcd m k∧(ay x.1).length≤1099511627776∧(ay x.2).length≤1099511627776) (λx=>x.2) (m,k) ⟨ae,lm,lk⟩ ck ?_)));rintro⟨x,y⟩ ⟨hg,lx,ly⟩;simp only at hg lx ly;refine aj (rr ae ?_);refine ax ae (λh=>?_) (λh=>?_)
 ·have hy:y≠0:=by have h:((ay y).length:Int)>0:=cd;exact m6.1 af
  have step:aG Tryz.prog 152 [cS aE (ay x),cS aE (ay y)] (.t [(false,[.S aE (ay (x/y))]),(false,[.S aE (ay (x%y))])]):=Ys x y hy lx;have Yt:Nat.gcd y (x%y)=Nat.gcd m k:=by rw[←hg,A6 x y,Nat.gcd_rec y x,A6]
  have bh:x%y<y:=iq _ af;have Yu:(ay (x%y)).length≤1099511627776:=dG (sU af) ly;refine aC (ai (aK (aj (rb ?_))));refine rg 13 ae ae (λh2=>?_) (λh2=>?_)
  ·have h2:(ay x).length≤2:=by have h2:((ay x).length:Int)≤2:=gR;omega
   refine re ae (ax ae (λh3=>?_) (λh3=>?_))
   ·have h3:(ay y).length≤2:=by have h3:((ay y).length:Int)≤2:=xv;omega
    have hx:x<18446744073709551616:=by have h5:=uP (n:=x);have h6:=uQ h2;rw[show(4294967296:Int)^2=18446744073709551616 from ae]at h6;omega
    have Ra:y<18446744073709551616:=by have h5:=uP (n:=y);have h6:=uQ h3;rw[show(4294967296:Int)^2=18446744073709551616 from ae]at h6;omega
    refine rb (rc ae ae (K2 x hx) (rc ae ae (K2 y Ra) (rc ae ae (X' x y hx Ra) (rc ae ae (BO _ ?_) (re ae (aF ?_))))))
    ·by_cases h0:x=0
     ·rw[h0,Nat.gcd_zero_left];exact Ra
     ·exact zb (Nat.gcd_le_left y af) hx
    ·repeat(first|refine bW ?_|refine fC ?_|refine ix ?_)
     refine aL ar ae (au.of_eq ?_);rw[←hg]
   ·refine aC (ai (rb (rc ae ae step (re ae (rr ae (rt ae (a7 (a8 (y,x%y) ⟨Yt,ly,Yu⟩ bh ck))))))))
  ·refine re ae (ax ae (λh3=>by cases h3) (λ_=>?_));refine aC (ai (rb (rc ae ae step (re ae (rr ae (rt ae (a7 (a8 (y,x%y) ⟨Yt,ly,Yu⟩ bh ck))))))))
 ·have h:(ay y).length=0:=by have:¬((ay y).length:Int)>0:=cd;omega
  have h0:y=0:=Decidable.byContradiction λaN=>by have:=m6.2 aN;omega
  subst h0;refine bp (bu (br (bq (ai (rr ae (aF (aL ar ae (au.of_eq ?_))))))));rw[←hg,JT]
def Yv(a b:Int)(ha:Sm a)(hb:Sm b):aG Tryz.prog 80 [aZ a,aZ b] (aZ (Int.gcd a b)):=by refine aX Tryz.func80 ae ae ae ae ae ak ?_;refine rr ae (rb ?_);refine rc ae ae (aiM _ _ ha hb) (rc ae ae (mr false _) (re ae (aF (aL ar ae (au.of_eq ?_)))));rfl
def aiN(a:List Int)(i:Nat):aG Tryz.prog 115 [cS .z a,cI i] (aZ (a.getD i 0)):=by
 refine aX Tryz.func115 ae ae ae ae ae ak ?_;refine rr ae (aj (rr ae ?_));refine ax ae (λh=>?_) (λh=>?_)
 ·have h:i<a.length:=by simpa using h
  refine rr ae (aF (bW (aL ar ae (au.of_eq ?_))));rfl
 ·have h:¬i<a.length:=by simpa using h
  refine aC (ai (rb (rc ae ae (BR 0 ak ak) (re ae (aF (aL ar ae (au.of_eq ?_)))))));have e:a.getD i 0=0:=by simp[aY,ni (F9 h)]
  rw[e];rfl
def En{a:Int}:cH a=0↔a=0:=by
 unfold cH;split
 ·omega
 ·split<;>omega
def aiO(a:List Int):aG Tryz.prog 114 [cS .z a] (cS .z (a6 a)):=by
 refine aX Tryz.func114 ae ae ae ae ae ak (zL 0 ae λhb=>?_);have hb:a.length*2≤140737488355328:=hb;refine rr ae (aj (aK (bA (α:=Nat) (λk=>⟨[(0,cS .z (a.take k))],[],1,[]⟩) (λk=>k≤a.length∧iI a k=iI a a.length) (λk=>k) a.length ⟨bF _,ae⟩ (wk ⟨⟨_,ae,au.of_eq (by rw[iV])⟩,ah⟩ ah) ?_)));rintro k ⟨hk,iO⟩;have hlen:(a.take k).length=k:=cO;refine aj (rb ?_);refine rg 6 ae ae (λh=>?_) (λh=>?_)
 ·have h:0<k:=by have h:(((a.take k).length:Nat):Int)>0:=cd;rw[hlen]at h;omega
  obtain⟨j,rfl⟩:∃j,k=j+1:=⟨k-1,by omega⟩;have ej:(((a.take (j+1)).length:Int)-1).toNat=j:=by rw[hlen];omega
  have ev:(a.take (j+1)).getD j 0=a.getD j 0:=by rw[aY,C3 af,←aY]
  refine ia ae ae ae ae ae (BS ((a.take (j+1)).getD (((a.take (j+1)).length:Int)-1).toNat 0)) (re ae ?_) (hp:=jN);refine ax ae (λh2=>?_) (λh2=>?_)
  ·have h2:a.getD j 0=0:=by have h2:cH ((a.take (j+1)).getD (((a.take (j+1)).length:Int)-1).toNat 0)=0:=gR;rw[ej,ev]at h2;exact En.1 h2
   refine aC (ai (aK (rt ae (a7 (a8 j ⟨by omega,?_⟩ pP (wk ⟨sE ae ?_,ah⟩ ah))) (hp:=jN))))
   ·rw[←iO,iI,aw h2]
   ·rw[ej];simp only[wi,OY];rw[tx af]
  ·have h2:a.getD j 0≠0:=by have h2:¬cH ((a.take (j+1)).getD (((a.take (j+1)).length:Int)-1).toNat 0)=0:=gR;rw[ej,ev]at h2;exact λe=>h2 (En.2 e)
   refine bp (bu (br (bq (ai (rr ae (aF (aL ar ae (au.of_eq ?_))))))));unfold a6;rw[←iO,iI,aq h2]
 ·have h:k=0:=by have h:¬(((a.take k).length:Nat):Int)>0:=cd;rw[hlen]at h;omega
  subst h;refine re ae (ax ae (λh2=>by simp at h2) (λ_=>?_));refine bp (bu (br (bq (ai (rr ae (aF (aL ar ae (au.of_eq ?_))))))));unfold a6;rw[←iO];rfl
def cf(x:Int):Rat:=if 100≤x then Rat.divInt ((x.tmod 7:Int)*((1:Nat):Int)) (((1:Nat):Int)*3)else((x.tmod 7:Int):Rat)
def iP(l:List Rat):Nat→Nat
 |0=>0
 |n+1=>if(l.getD n 0).num=0 then iP l n else n+1
def eh(l:List Rat):List Rat:=l.take (iP l l.length)
def ib(l:List Int)(most:Nat):List Rat:=eh ((l.take (most+1)).map cf)
def Rb(x:Int): -6≤x.tmod 7∧x.tmod 7≤6:=by rw[Int.tmod_eq_emod];split<;>omega
def aiP(l:List Int)(i:Nat)(h:i<l.length):((l.take (i+1)).map cf)=((l.take i).map cf)++[cf (l.getD i 0)]:=by rw[wc,dZ];simp[ct h,aY]
set_option maxHeartbeats 2000000 in
def Yw(l:List Int)(most:Nat)(asj:most≤1000)(hl:∀x∈l,-128≤x∧x≤127):aG Tryz.prog 17 [cS I8 l,cI most] (cS .q (ib l most)):=by
 refine aX Tryz.func17 ae ae ae ae ae ak (zL 0 ae λhb=>?_);have hb:l.length*1≤140737488355328:=hb;refine rr ae (rb (x8 .q [] ae ae (re ae (aj (rr ae ?_)))));refine aK (bA (α:=Nat) (λi=>⟨[(0,cS I8 l),(1,cI most),(5,.c (.X 1000000)),(6,cI i)],[(1000000,.vec 46 .q ((l.take i).map cf))],3,[]⟩) (λi=>i≤l.length∧i≤most+1) (λi=>l.length-i) 0 ⟨bK _,bK _⟩ ck ?_);rintro i ⟨hi,u7⟩;refine aj (rb ?_);refine rg 13 ae ae (λh=>?_) (λh=>?_)
 ·have h:i<l.length:=by simpa using h
  refine re ae (ax ae (λh2=>?_) (λh2=>?_))
  ·have h2:i≤most:=by have h2:(i:Int)≤most:=gR;omega
   have hx: -128≤l.getD i 0∧l.getD i 0≤127:=by rw[aY,ct h];exact hl _ (mO h)
   have h7:=Rb (l.getD i 0);have h7':=Rb (l.getD (i:Int).toNat I8.kU);have KJ:=aiP l i h;refine aC (ai (aj (aK (rb ?_))));refine rc ae ae (yg ((l.getD (i:Int).toNat 0).tmod 7) (by rw[bw];omega) (by rw[bw];omega)) (re ae (aj (rr ae ?_)));refine ax ae (λh3=>?_) (λh3=>?_)
   ·have h3:100≤l.getD i 0:=by simpa using h3
    have yi:cf (l.getD i 0)=Rat.divInt (((l.getD i 0).tmod 7:Int)*((1:Nat):Int)) (((1:Nat):Int)*3):=by unfold cf;rw[aw h3]
    refine cG (rc ae ae (yg 3 ak ak) (rc ae ae (aiG _ _ ak (by show((l.getD (i:Int).toNat 0).tmod 7).natAbs≤65535;rw[bw];omega) (by show 1≤65535;decide) ak ak) (re ae (ai ?_))));refine dv (st':=⟨[(0,cS I8 l),(1,cI most),(5,.c (.X 1000000)),(6,cI i),(7,.c (.P 4007000 0))],[(4007000,.box 46 0 (av .q (cf (l.getD i 0)))),(1000000,.vec 46 .q ((l.take i).map cf))],6,[]⟩) (wk ⟨sR ae,sR ae,sR ae,sR ae,sR ae,ah⟩ ⟨bE ae ?_,bR ae,ah⟩) ?_
    ·rw[yi];rfl
    refine cG (rl .q [cf (l.getD i 0)] ae ae (ra ae ae ae ae ae ae ae ae ae ?_ ?_ (re ae ?_)))
    ·show(_+1+(_+1)/4+192)*64≤_;simp only[dJ,fD];omega
    ·show(_+1)*4≤_;simp only[dJ,fD];omega
    refine a7 (ai (rt ae (a8 (i+1) ⟨by omega,by omega⟩ (by show l.length-(i+1)<l.length-i;omega) (Wk.trans (wk (st':=⟨[(0,cS I8 l),(1,cI most),(5,.c (.X 6003000)),(6,cI ((i+1:Nat):Int))],[(6003000,.vec 46 .q ((l.take (i+1)).map cf))],8,[]⟩) ⟨sR ae,sR ae,sR ae,sE ae ?_,ah⟩ ⟨bE ae ?_,ah⟩) (Wk.trans (qq 1000000 6003000 ae ae ae) ck)))))
    ·rfl
    ·rw[KJ]
   ·have h3:¬100≤l.getD i 0:=by simpa using h3
    have yi:cf (l.getD i 0)=(((l.getD i 0).tmod 7:Int):Rat):=by unfold cf;rw[aq h3]
    refine aC (ai ?_);refine dv (st':=⟨[(0,cS I8 l),(1,cI most),(5,.c (.X 1000000)),(6,cI i),(7,.c (.P 4007000 0))],[(4007000,.box 46 0 (av .q (cf (l.getD i 0)))),(1000000,.vec 46 .q ((l.take i).map cf))],6,[]⟩) (wk ⟨sR ae,sR ae,sR ae,sR ae,sR ae,ah⟩ ⟨bE ae ?_,bR ae,ah⟩) ?_
    ·rw[yi];rfl
    refine cG (rl .q [cf (l.getD i 0)] ae ae (ra ae ae ae ae ae ae ae ae ae ?_ ?_ (re ae ?_)))
    ·show(_+1+(_+1)/4+192)*64≤_;simp only[dJ,fD];omega
    ·show(_+1)*4≤_;simp only[dJ,fD];omega
    refine a7 (ai (rt ae (a8 (i+1) ⟨by omega,by omega⟩ (by show l.length-(i+1)<l.length-i;omega) (Wk.trans (wk (st':=⟨[(0,cS I8 l),(1,cI most),(5,.c (.X 6003000)),(6,cI ((i+1:Nat):Int))],[(6003000,.vec 46 .q ((l.take (i+1)).map cf))],8,[]⟩) ⟨sR ae,sR ae,sR ae,sE ae ?_,ah⟩ ⟨bE ae ?_,ah⟩) (Wk.trans (qq 1000000 6003000 ae ae ae) ck)))))
    ·rfl
    ·rw[KJ]
  ·have h2:¬i≤most:=by have h2:¬(i:Int)≤most:=gR;omega
   have tL:l.take i=l.take (most+1):=by rw[show i=most+1 by omega]
   refine bp (bu (br (bq (ai (fS 1000000 ae ae ae (dv (st':=⟨[(5,cS .q ((l.take i).map cf))],[],4,[]⟩) ck ?_))))));have hL:(l.take i).map cf=(l.take (most+1)).map cf:=by rw[tL]
   unfold ib;rw[←hL];generalize tX:(l.take i).map cf=L;have Yx:L.length≤1001:=by rw[←tX];simp;omega
   refine aj (aK (bA (α:=Nat) (λk=>⟨[(5,cS .q (L.take k))],[],4,[]⟩) (λk=>k≤L.length∧iP L k=iP L L.length) (λk=>k) L.length ⟨bF _,ae⟩ (wk ⟨⟨_,ae,au.of_eq (by rw[iV])⟩,ah⟩ ah) ?_));rintro k ⟨hk,iO⟩;have hlen:(L.take k).length=k:=cO;refine aj (rb ?_);refine rg 45 ae ae (λh=>?_) (λh=>?_)
   ·have h:0<k:=by have h:(((L.take k).length:Nat):Int)>0:=cd;rw[hlen]at h;omega
    obtain⟨j,rfl⟩:∃j,k=j+1:=⟨k-1,by omega⟩;have ej:(((L.take (j+1)).length:Int)-1).toNat=j:=by rw[hlen];omega
    have ev:(L.take (j+1)).getD j 0=L.getD j 0:=by rw[aY,C3 af,←aY]
    refine ia ae ae ae ae ae (Ek ((L.take (j+1)).getD (((L.take (j+1)).length:Int)-1).toNat 0)) (re ae ?_) (hp:=jN);refine ax ae (λh2=>?_) (λh2=>?_)
    ·have h2:(L.getD j 0).num=0:=by have h2:cH ((L.take (j+1)).getD (((L.take (j+1)).length:Int)-1).toNat 0).num=0:=gR;rw[ej,ev]at h2;exact En.1 h2
     refine aC (ai (aK (rt ae (a7 (a8 j ⟨by omega,?_⟩ pP (wk ⟨sE ae ?_,ah⟩ ah))) (hp:=jN))))
     ·rw[←iO,iP,aw h2]
     ·rw[ej];simp only[wi,OY];rw[tx af]
    ·have h2:(L.getD j 0).num≠0:=by have h2:¬cH ((L.take (j+1)).getD (((L.take (j+1)).length:Int)-1).toNat 0).num=0:=gR;rw[ej,ev]at h2;exact λe=>h2 (En.2 e)
     refine bp (bu (br (bq (ai (rr ae (aF (aL ar ae (au.of_eq ?_))))))));unfold eh;rw[←iO,iP,aq h2]
   ·have h:k=0:=by have h:¬(((L.take k).length:Nat):Int)>0:=cd;rw[hlen]at h;omega
    subst h;refine re ae (ax ae (λh2=>by simp at h2) (λ_=>?_));refine bp (bu (br (bq (ai (rr ae (aF (aL ar ae (au.of_eq ?_))))))));unfold eh;rw[←iO];rfl
 ·have h:¬i<l.length:=by simpa using h
  have tL:l.take i=l.take (most+1):=by rw[lD af,lD af]
  refine re ae (ax ae (λh2=>by simp at h2) (λ_=>?_));refine bp (bu (br (bq (ai (fS 1000000 ae ae ae (dv (st':=⟨[(5,cS .q ((l.take i).map cf))],[],4,[]⟩) ck ?_))))));have hL:(l.take i).map cf=(l.take (most+1)).map cf:=by rw[tL]
  unfold ib;rw[←hL];generalize tX:(l.take i).map cf=L;have Yx:L.length≤1001:=by rw[←tX];simp;omega
  refine aj (aK (bA (α:=Nat) (λk=>⟨[(5,cS .q (L.take k))],[],4,[]⟩) (λk=>k≤L.length∧iP L k=iP L L.length) (λk=>k) L.length ⟨bF _,ae⟩ (wk ⟨⟨_,ae,au.of_eq (by rw[iV])⟩,ah⟩ ah) ?_));rintro k ⟨hk,iO⟩;have hlen:(L.take k).length=k:=cO;refine aj (rb ?_);refine rg 45 ae ae (λh=>?_) (λh=>?_)
  ·have h:0<k:=by have h:(((L.take k).length:Nat):Int)>0:=cd;rw[hlen]at h;omega
   obtain⟨j,rfl⟩:∃j,k=j+1:=⟨k-1,by omega⟩;have ej:(((L.take (j+1)).length:Int)-1).toNat=j:=by rw[hlen];omega
   have ev:(L.take (j+1)).getD j 0=L.getD j 0:=by rw[aY,C3 af,←aY]
   refine ia ae ae ae ae ae (Ek ((L.take (j+1)).getD (((L.take (j+1)).length:Int)-1).toNat 0)) (re ae ?_) (hp:=jN);refine ax ae (λh2=>?_) (λh2=>?_)
   ·have h2:(L.getD j 0).num=0:=by have h2:cH ((L.take (j+1)).getD (((L.take (j+1)).length:Int)-1).toNat 0).num=0:=gR;rw[ej,ev]at h2;exact En.1 h2
    refine aC (ai (aK (rt ae (a7 (a8 j ⟨by omega,?_⟩ pP (wk ⟨sE ae ?_,ah⟩ ah))) (hp:=jN))))
    ·rw[←iO,iP,aw h2]
    ·rw[ej];simp only[wi,OY];rw[tx af]
   ·have h2:(L.getD j 0).num≠0:=by have h2:¬cH ((L.take (j+1)).getD (((L.take (j+1)).length:Int)-1).toNat 0).num=0:=gR;rw[ej,ev]at h2;exact λe=>h2 (En.2 e)
    refine bp (bu (br (bq (ai (rr ae (aF (aL ar ae (au.of_eq ?_))))))));unfold eh;rw[←iO,iP,aq h2]
  ·have h:k=0:=by have h:¬(((L.take k).length:Nat):Int)>0:=cd;rw[hlen]at h;omega
   subst h;refine re ae (ax ae (λh2=>by simp at h2) (λ_=>?_));refine bp (bu (br (bq (ai (rr ae (aF (aL ar ae (au.of_eq ?_))))))));unfold eh;rw[←iO];rfl
end Go.El
namespace Go.El
def z8(A B:Nat→Int)(n:Nat):Nat→Int
 |0=>0
 |i+1=>z8 A B n i+A i*B (n-i)
def conv(A B:Nat→Int)(n:Nat):Int:=z8 A B n (n+1)
def Yy(A B:Nat→Int)(n:Nat):∀k,(∀i,i<k→A i*B (n-i)=0)→z8 A B n k=0
 |0,_=>rfl
 |k+1,h=>by simp only[z8,Yy A B n k (λi hi=>h i af),h k af];rfl
def Rc(A B:Nat→Int)(n d:Nat):∀k,d<k→(∀i,i<k→i≠d→A i*B (n-i)=0)→z8 A B n k=A d*B (n-d)
 |0,h,_=>by omega
 |k+1,h,h2=>by
  simp only[z8];by_cases hk:k=d
  ·subst hk;rw[Yy A B n k (λi hi=>h2 i af af)];omega
  ·rw[Rc A B n d k af (λi hi=>h2 i af),h2 k af hk];omega
end Go.El
namespace Go.El
open Go Go.Proofs
def Lc(m:Nat)(hm:m<18446744073709551616):aG Tryz.prog 169 [cU m] (cS aE (ay m)):=by
 refine aX Tryz.func169 ae ae ae ae ae ak ?_;refine rr ae (rb ?_);have e1:IntKind.wrap .u32 (m:Int)=((m%4294967296:Nat):Int):=Ou;have e2:IntKind.wrap .u32 ((m:Int).fdiv (2^(min (32:Int).toNat (IntKind.bits .u64))))=((m/4294967296:Nat):Int):=by
  have:(m:Int).fdiv (2^(min (32:Int).toNat (IntKind.bits .u64)))=((m/4294967296:Nat):Int):=by rw[C2 _ ak];rfl
  rw[this,wrap_u32 _ af af]
 refine rl aE [_,_] ae ae ?_;refine rc ae ae (wL _) ?_;refine re ae (aF (aL ar ae (au.of_eq ?_)));rw[e1,e2,X5 m hm]
def pq(neg:Bool)(m:Nat):aG Tryz.prog 168 [cB neg,cS aE (ay m)] (aZ (sg neg m)):=by
 refine aX Tryz.func168 ae ae ae ae ae ak ?_;have ht:=wL (ay m);rw[Pd]at ht;refine rr ae (rb (rc ae ae ht (re ae (aj (rr ae ?_)))));refine ax ae (λh=>?_) (λh=>?_)
 ·have h:(ay m).length=0:=by have h:((ay m).length:Int)=0:=cd;omega
  have h0:m=0:=Decidable.byContradiction λaN=>by have:=m6.2 aN;omega
  subst h0;refine rr ae (aF (bW (aL ar ae ?_)));have e:sg neg 0=0:=by cases neg<;>rfl
  rw[e];refine⟨?_,λid al=>by cases al⟩;rintro g v ⟨vs,rfl,v1,r,rfl,h1,v2,r2,rfl,h2,rfl⟩;have h2:v2= .slice none 0 0:=h2;exact⟨_,ae,v1,_,ae,h1,v2,_,ae,by rw[h2];exact XN g.H,ae⟩
 ·have h:(ay m).length≠0:=by have h:¬((ay m).length:Int)=0:=cd;omega
  refine aC (ai (rr ae (aF (aL ar ae (au.of_eq ?_)))));rw[←X7];have e:(neg&&decide (0<(ay m).length))=neg:=by have:0<(ay m).length:=af;simp[this]
  rw[e];rfl
def Ld(ws:List Int)(hl:ws.length≤1099511627776):aG Tryz.prog 170 [cS aE ws] (cS aE ws):=by
 refine aX Tryz.func170 ae ae ae ae ae ak ?_;refine rr ae (rb (Qq ae ae ae ae ae ae ae ae ?_ ?_ (re ae (fS 1001000 ae ae ae (aF (aL ar ae (au.refl _)))))))
 ·show(_+_/4+192)*4≤_;omega
 ·show _*1≤_;omega
def oH(n:Int)(h0: -9223372036854775808≤n)(h1:n≤9223372036854775807):aG Tryz.prog 100 [cI n] (aZ n):=by
 refine aX Tryz.func100 ae ae ae ae ae ak ?_;refine rr ae (rr ae (aj (rr ae ?_)));refine ax ae (λh=>?_) (λh=>?_)
 ·have h:n<0:=by simpa using h
  have e:IntKind.wrap .u64 (0-IntKind.wrap .u64 n)=((-n).toNat:Nat):=by simp[IntKind.wrap,IntKind.bits,IntKind.signed];omega
  refine rt ae (ai (rb ?_));refine rc ae ae (f:=169) (r:=cS aE (ay (-n).toNat)) (by rw[show(AV.c (num .u64 (0-IntKind.wrap .u64 n)).1)=cU (((-n).toNat:Nat):Int)from az (λx=>AV.c (C.I .u64 x)) e];exact Lc _ af) ?_;refine rc ae ae (pq _ _) (re ae (aF (aL ar ae (au.of_eq ?_))));have e2:sg (decide (n<0)) (-n).toNat=n:=by unfold sg;simp[h];omega
  exact az aZ e2
 ·have h:¬n<0:=by simpa using h
  have e:IntKind.wrap .u64 n=(n.toNat:Nat):=by rw[wrap_u64 _ af af];omega
  refine aC (ai (rb ?_));refine rc ae ae (f:=169) (r:=cS aE (ay n.toNat)) (by rw[show(AV.c (num .u64 n).1)=cU ((n.toNat:Nat):Int)from az (λx=>AV.c (C.I .u64 x)) e];exact Lc _ af) ?_;refine rc ae ae (pq _ _) (re ae (aF (aL ar ae (au.of_eq ?_))));have e2:sg (decide (n<0)) n.toNat=n:=by unfold sg;simp[h];omega
  exact az aZ e2
def z9(a:Int):aG Tryz.prog 101 [aZ a] (cI (cH a)):=by
 refine aX Tryz.func101 ae ae ae ae ae ak ?_;refine rr ae (aj (rr ae ?_));refine ax ae (λh=>?_) (λh=>?_)
 ·have h:a=0:=by
   have h:((cY a).length:Int)=0:=cd;have:a.natAbs=0:=Decidable.byContradiction λaN=>by have:=m6.2 aN;unfold cY at h;omega
   omega
  refine rr ae (aF (bW (aL ar ae (au.of_eq ?_))));rw[h];rfl
 ·have h:a≠0:=by have h:¬((cY a).length:Int)=0:=cd;intro h0;subst h0;exact h ae
  refine aC (ai (aj (rr ae ?_)));refine ax ae (λh2=>?_) (λh2=>?_)
  ·have h2:a<0:=by simpa[bN]using h2
   refine rr ae (aF (bW (aL ar ae (au.of_eq ?_))));rw[cH,aw h2];rfl
  ·have h2:¬a<0:=by simpa[bN]using h2
   refine aC (ai (rr ae (aF (aL ar ae (au.of_eq ?_)))));rw[cH,aq h2,aq h];rfl
def Le(a:Int)(ha:Sm a):aG Tryz.prog 102 [aZ a] (aZ (-a)):=by
 refine aX Tryz.func102 ae ae ae ae ae ak ?_;refine rr ae (rb (rc ae ae (Ld _ ha) (rc ae ae (pq (!bN a) a.natAbs) (re ae (aF (aL ar ae (au.of_eq ?_)))))));have e2:sg (!bN a) a.natAbs= -a:=by
  unfold sg bN;by_cases h:a<0
  ·simp[h];omega
  ·simp[h];omega
 exact az aZ e2
set_option maxHeartbeats 2000000 in
def aiQ(a b:List Int)(ha:bT a)(hb:bT b)(la:a.length≤1099511627776)(lb:b.length≤1099511627776):aG Tryz.prog 171 [cS aE a,cS aE b] (cS aE (ay (val a+val b).toNat)):=by
 refine aX Tryz.func171 ae ae ae ae ae ak ?_;refine rr ae (aj (rr ae ?_));refine ax ae (λh=>?_) (λh=>?_)
 ·have hl:a.length≤b.length:=by have h:a.length<b.length:=cd;omega
  rw[xH (val a)];refine rt ae (ai ?_);revert ha hb la lb hl;generalize b=X;generalize a=Y;intro hY hX lY lX hl;refine dv (st':=⟨[(0,cS aE X),(1,cS aE Y)],[],30,[]⟩) ck (rb ?_);refine rm aE (X.length+1) ae ae ae ae ae ae (lN .u32) ae ?_ ?_ ?_
  ·show _*4≤_;omega
  ·show _*1≤_;omega
  refine re ae (rr ae (aj (rr ae ?_)));refine aK (bA (α:=Nat×List Int×Int) (λx=>⟨[(0,cS aE X),(1,cS aE Y),(5,.c (.X 30003000)),(6,cU x.2.2),(21,cI X.length),(22,cI x.1)],[(30003000,.vec 23 aE x.2.1)],33,[]⟩) (λx=>Ee X Y (X.length+1) x∧x.1≤X.length) (λx=>X.length-x.1) (0,List.replicate (X.length+1) 0,0) ?_ ?_ ?_)
  ·refine⟨⟨bK _,by simp,so _,?_,jH _,JH,by simp[wq,val]⟩,bK _⟩;intro j _;simp only[aY,mM];split<;>rfl
  ·exact wk ⟨sR ae,sR ae,sR ae,sR ae,sR ae,sR ae,ah⟩ ⟨bR ae,ah⟩
  ·rintro⟨i,o,c⟩ ⟨hI,hi⟩;have hi:i≤X.length:=hi;have hlen:o.length=X.length+1:=hI.len;have oF:0≤c:=hI.c0;have lJ:c≤1:=hI.c1;have ga:=cZ hX i;have gb:=cZ hY i;refine rr ae (aj ?_);refine ax ae (λh=>?_) (λh=>?_)
   ·have h:i<X.length:=by simpa using h
    have hn:=hI.next (by show i<X.length+1;omega) hX hY;simp only at hn;generalize ht:X.getD i 0+Y.getD i 0+c=s at hn;have e1:IntKind.wrap .u32 s=s%4294967296:=by simp[IntKind.wrap,IntKind.bits,IntKind.signed]
    have e2:s.fdiv (2^(min (32:Int).toNat (IntKind.bits .u64)))=s/4294967296:=by rw[C2 _ ak];rfl
    refine aC (ai (aj (aK (rr ae (rr ae (aj (rr ae ?_)))))));refine ax ae (λh2=>?_) (λh2=>?_)
    ·have h2:i<Y.length:=by simpa using h2
     refine rt ae (ai ?_);have e0:IntKind.wrap .u64 (IntKind.wrap .u64 (IntKind.wrap .u64 (X.getD (i:Int).toNat 0)+c)+IntKind.wrap .u64 (Y.getD (i:Int).toNat 0))=s:=by rw[bw,wrap_u64 (X.getD i 0) af af,wrap_u64 (Y.getD i 0) af af,wrap_u64 (X.getD i 0+c) af af,wrap_u64 _ af af];omega
     refine dv (st':=⟨[(0,cS aE X),(1,cS aE Y),(5,.c (.X 30003000)),(7,cI i),(8,cU s),(21,cI X.length),(22,cI i)],[(30003000,.vec 23 aE o)],40,[]⟩) (wk ⟨sR ae,sR ae,sR ae,sR ae,⟨_,ae,au.of_eq (az (λx=>AV.c (C.I .u64 x)) e0)⟩,sR ae,sR ae,ah⟩ ⟨bR ae,ah⟩) ?_;refine rr ae (rt ae (a7 (ai (rt ae (a8 (i+1,o.set i (s%4294967296),s/4294967296) ⟨hn,by show i+1≤X.length;omega⟩ Ov (wk ⟨sR ae,sR ae,sR ae,sE ae ?_,sR ae,sE ae ae,ah⟩ ⟨bE ae ?_,ah⟩))))))
     ·exact az (λx=>AV.c (C.I .u64 x)) e2
     ·rw[e1,bw]
    ·have h2:¬i<Y.length:=by simpa using h2
     have hY0:Y.getD i 0=0:=VF;refine aC (ai ?_);have e0:IntKind.wrap .u64 (IntKind.wrap .u64 (X.getD (i:Int).toNat 0)+c)=s:=by rw[bw,wrap_u64 (X.getD i 0) af af,wrap_u64 _ af af];omega
     refine dv (st':=⟨[(0,cS aE X),(1,cS aE Y),(5,.c (.X 30003000)),(7,cI i),(8,cU s),(21,cI X.length),(22,cI i)],[(30003000,.vec 23 aE o)],40,[]⟩) (wk ⟨sR ae,sR ae,sR ae,sR ae,⟨_,ae,au.of_eq (az (λx=>AV.c (C.I .u64 x)) e0)⟩,sR ae,sR ae,ah⟩ ⟨bR ae,ah⟩) ?_;refine rr ae (rt ae (a7 (ai (rt ae (a8 (i+1,o.set i (s%4294967296),s/4294967296) ⟨hn,by show i+1≤X.length;omega⟩ Ov (wk ⟨sR ae,sR ae,sR ae,sE ae ?_,sR ae,sE ae ae,ah⟩ ⟨bE ae ?_,ah⟩))))))
     ·exact az (λx=>AV.c (C.I .u64 x)) e2
     ·rw[e1,bw]
   ·have h:¬i<X.length:=by simpa using h
    have hi:i=X.length:=af;subst hi;have ec:IntKind.wrap .u32 c=c:=wrap_u32 c oF af;refine bp (bu (br (bq (ai (rr ae ?_)))));refine dv (st':=⟨[(5,.c (.X 30003000))],[(30003000,.vec 23 aE (o.set X.length c))],40,[]⟩) (wk ⟨sR ae,ah⟩ ⟨bE ae ?_,ah⟩) ?_
    ·rw[ec,bw]
    refine fS 30003000 ae ae ae (rb (rc ae ae (wL _) (re ae (aF (aL ar ae (au.of_eq ?_))))));have hr:bT (o.set X.length c):=zr hI.r _ ⟨oF,by omega⟩;have hv:=hI.v;simp only[iV]at hv;rw[np Y X.length hl]at hv;rw[pX hr,Hc o X.length c af (hI.z X.length (bF _)),hv]
 ·have hl:b.length≤a.length:=by have h:¬a.length<b.length:=cd;omega
  refine aC (ai ?_);revert ha hb la lb hl;generalize a=X;generalize b=Y;intro hX hY lX lY hl;refine dv (st':=⟨[(0,cS aE X),(1,cS aE Y)],[],30,[]⟩) ck (rb ?_);refine rm aE (X.length+1) ae ae ae ae ae ae (lN .u32) ae ?_ ?_ ?_
  ·show _*4≤_;omega
  ·show _*1≤_;omega
  refine re ae (rr ae (aj (rr ae ?_)));refine aK (bA (α:=Nat×List Int×Int) (λx=>⟨[(0,cS aE X),(1,cS aE Y),(5,.c (.X 30003000)),(6,cU x.2.2),(21,cI X.length),(22,cI x.1)],[(30003000,.vec 23 aE x.2.1)],33,[]⟩) (λx=>Ee X Y (X.length+1) x∧x.1≤X.length) (λx=>X.length-x.1) (0,List.replicate (X.length+1) 0,0) ?_ ?_ ?_)
  ·refine⟨⟨bK _,by simp,so _,?_,jH _,JH,by simp[wq,val]⟩,bK _⟩;intro j _;simp only[aY,mM];split<;>rfl
  ·exact wk ⟨sR ae,sR ae,sR ae,sR ae,sR ae,sR ae,ah⟩ ⟨bR ae,ah⟩
  ·rintro⟨i,o,c⟩ ⟨hI,hi⟩;have hi:i≤X.length:=hi;have hlen:o.length=X.length+1:=hI.len;have oF:0≤c:=hI.c0;have lJ:c≤1:=hI.c1;have ga:=cZ hX i;have gb:=cZ hY i;refine rr ae (aj ?_);refine ax ae (λh=>?_) (λh=>?_)
   ·have h:i<X.length:=by simpa using h
    have hn:=hI.next (by show i<X.length+1;omega) hX hY;simp only at hn;generalize ht:X.getD i 0+Y.getD i 0+c=s at hn;have e1:IntKind.wrap .u32 s=s%4294967296:=by simp[IntKind.wrap,IntKind.bits,IntKind.signed]
    have e2:s.fdiv (2^(min (32:Int).toNat (IntKind.bits .u64)))=s/4294967296:=by rw[C2 _ ak];rfl
    refine aC (ai (aj (aK (rr ae (rr ae (aj (rr ae ?_)))))));refine ax ae (λh2=>?_) (λh2=>?_)
    ·have h2:i<Y.length:=by simpa using h2
     refine rt ae (ai ?_);have e0:IntKind.wrap .u64 (IntKind.wrap .u64 (IntKind.wrap .u64 (X.getD (i:Int).toNat 0)+c)+IntKind.wrap .u64 (Y.getD (i:Int).toNat 0))=s:=by rw[bw,wrap_u64 (X.getD i 0) af af,wrap_u64 (Y.getD i 0) af af,wrap_u64 (X.getD i 0+c) af af,wrap_u64 _ af af];omega
     refine dv (st':=⟨[(0,cS aE X),(1,cS aE Y),(5,.c (.X 30003000)),(7,cI i),(8,cU s),(21,cI X.length),(22,cI i)],[(30003000,.vec 23 aE o)],40,[]⟩) (wk ⟨sR ae,sR ae,sR ae,sR ae,⟨_,ae,au.of_eq (az (λx=>AV.c (C.I .u64 x)) e0)⟩,sR ae,sR ae,ah⟩ ⟨bR ae,ah⟩) ?_;refine rr ae (rt ae (a7 (ai (rt ae (a8 (i+1,o.set i (s%4294967296),s/4294967296) ⟨hn,by show i+1≤X.length;omega⟩ Ov (wk ⟨sR ae,sR ae,sR ae,sE ae ?_,sR ae,sE ae ae,ah⟩ ⟨bE ae ?_,ah⟩))))))
     ·exact az (λx=>AV.c (C.I .u64 x)) e2
     ·rw[e1,bw]
    ·have h2:¬i<Y.length:=by simpa using h2
     have hY0:Y.getD i 0=0:=VF;refine aC (ai ?_);have e0:IntKind.wrap .u64 (IntKind.wrap .u64 (X.getD (i:Int).toNat 0)+c)=s:=by rw[bw,wrap_u64 (X.getD i 0) af af,wrap_u64 _ af af];omega
     refine dv (st':=⟨[(0,cS aE X),(1,cS aE Y),(5,.c (.X 30003000)),(7,cI i),(8,cU s),(21,cI X.length),(22,cI i)],[(30003000,.vec 23 aE o)],40,[]⟩) (wk ⟨sR ae,sR ae,sR ae,sR ae,⟨_,ae,au.of_eq (az (λx=>AV.c (C.I .u64 x)) e0)⟩,sR ae,sR ae,ah⟩ ⟨bR ae,ah⟩) ?_;refine rr ae (rt ae (a7 (ai (rt ae (a8 (i+1,o.set i (s%4294967296),s/4294967296) ⟨hn,by show i+1≤X.length;omega⟩ Ov (wk ⟨sR ae,sR ae,sR ae,sE ae ?_,sR ae,sE ae ae,ah⟩ ⟨bE ae ?_,ah⟩))))))
     ·exact az (λx=>AV.c (C.I .u64 x)) e2
     ·rw[e1,bw]
   ·have h:¬i<X.length:=by simpa using h
    have hi:i=X.length:=af;subst hi;have ec:IntKind.wrap .u32 c=c:=wrap_u32 c oF af;refine bp (bu (br (bq (ai (rr ae ?_)))));refine dv (st':=⟨[(5,.c (.X 30003000))],[(30003000,.vec 23 aE (o.set X.length c))],40,[]⟩) (wk ⟨sR ae,ah⟩ ⟨bE ae ?_,ah⟩) ?_
    ·rw[ec,bw]
    refine fS 30003000 ae ae ae (rb (rc ae ae (wL _) (re ae (aF (aL ar ae (au.of_eq ?_))))));have hr:bT (o.set X.length c):=zr hI.r _ ⟨oF,by omega⟩;have hv:=hI.v;simp only[iV]at hv;rw[np Y X.length hl]at hv;rw[pX hr,Hc o X.length c af (hI.z X.length (bF _)),hv]
def Hr:ByteArray:={data:=(([0,1,2,2,3,3,3,3,4,4,4,4,4,4,4,4,5,5,5,5,5,5,5,5,5,5,5,5,5,5,5,5,6,6,6,6,6,6,6,6,6,6,6,6,6,6,6,6,6,6,6,6,6,6,6,6,6,6,6,6,6,6,6,6].append [7,7,7,7,7,7,7,7,7,7,7,7,7,7,7,7,7,7,7,7,7,7,7,7,7,7,7,7,7,7,7,7,7,7,7,7,7,7,7,7,7,7,7,7,7,7,7,7,7,7,7,7,7,7,7,7,7,7,7,7,7,7,7,7]).append ([8,8,8,8,8,8,8,8,8,8,8,8,8,8,8,8,8,8,8,8,8,8,8,8,8,8,8,8,8,8,8,8,8,8,8,8,8,8,8,8,8,8,8,8,8,8,8,8,8,8,8,8,8,8,8,8,8,8,8,8,8,8,8,8].append [8,8,8,8,8,8,8,8,8,8,8,8,8,8,8,8,8,8,8,8,8,8,8,8,8,8,8,8,8,8,8,8,8,8,8,8,8,8,8,8,8,8,8,8,8,8,8,8,8,8,8,8,8,8,8,8,8,8,8,8,8,8,8,8])).toArray}
def Yz(n:Nat):Bool:=match zR Hr (n:Int)with
 |some l=>decide (0≤l)&&decide (l≤8)&&Nat.blt n (2^l.toNat)&&(Nat.ble (2^l.toNat) (2*n)||Nat.beq n 0)
 |none=>false
def aiS:((List.range 256).all Yz)=true:=gI
def YA{n:Nat}(h:n<256):∃l:Nat,zR Hr (n:Int)=some (l:Int)∧l≤8∧n<2^l∧(2^l≤2*n∨n=0):=by
 have h1:=wg.1 aiS n (kR.2 h);unfold Yz at h1;split at h1
 ·rename_i l e;simp only[eQ,zd,decide_eq_true_eq]at h1;obtain⟨⟨⟨h2,h3⟩,h4⟩,h5⟩:=h1;have h4:=cT h4;refine⟨l.toNat,by rw[F5 h2];exact e,by omega,h4,?_⟩;rcases h5 with h5|h5
  ·exact .inl (cT h5)
  ·exact .inr (Da h5)
 ·cases h1
def Hs{st:St}{t:TypeId}{x i:Operand}{b8:ByteArray}{k:IntKind}{j b:Int}{ti:TI}(h1:st.ev x=some (.c (.V (.string b8))))(h2:st.ev i=some (.c (.I k j)))(h3:ao t eB=some ti)(h4:ti.kind= .str)(h5:zR b8 j=some b):BH eB st (.index t x i)=some (.c (.I .u8 b),.le 0 j):=by simp[BH,h1,h2,h3,h4,h5]
set_option maxHeartbeats 2000000 in
def aiT(a b:List Int)(ha:bT a)(hb:bT b)(la:a.length≤1099511627776)(lb:b.length≤1099511627776):aG Tryz.prog 175 [cS aE a,cS aE b] (cS aE (ay (val a*val b).toNat)):=by
 refine aX Tryz.func175 ae ae ae ae ae ak ?_;refine rr ae (rb ?_);refine rm aE (a.length+b.length) ae ae ae ae ae ae (lN .u32) ae ?_ ?_ ?_
 ·show _*4≤_;omega
 ·show _*1≤_;omega
 refine re ae (aj (rr ae ?_));refine aK (bA (α:=Nat×List Int) (λx=>⟨[(0,cS aE a),(1,cS aE b),(5,.c (.X 1005000)),(18,cI a.length),(19,cI x.1)],[(1005000,.vec 23 aE x.2)],3,[]⟩) (QC a b) (λx=>a.length-x.1) (0,List.replicate (a.length+b.length) 0) ?_ ?_ ?_)
 ·refine⟨bK _,by simp,so _,?_,by simp[wq,val]⟩;intro j _;simp only[aY,mM];split<;>rfl
 ·exact wk ⟨sR ae,sR ae,sR ae,sR ae,sR ae,ah⟩ ⟨bR ae,ah⟩
 ·rintro⟨i,o⟩ hO;have hlen:o.length=a.length+b.length:=hO.len;refine rr ae (aj ?_);refine ax ae (λh=>?_) (λh=>?_)
  ·have h:i<a.length:=by simpa using h
   have ga:=cZ ha i;refine aC (ai (aj (aK (rr ae (rr ae (rr ae (aj (rr ae ?_))))))));have ea:IntKind.wrap .u64 (a.getD (i:Int).toNat 0)=a.getD i 0:=by rw[bw,wrap_u64 _ af af]
   refine aK (bA (α:=Nat×List Int×Int) (λx=>⟨[(0,cS aE a),(1,cS aE b),(5,.c (.X 1005000)),(6,cI i),(7,cU x.2.2),(8,cU (a.getD i 0)),(18,cI a.length),(19,cI i),(28,cI b.length),(29,cI x.1)],[(1005000,.vec 23 aE x.2.1)],8,[]⟩) (BQ a b i) (λx=>b.length-x.1) (0,o,0) ?_ ?_ ?_)
   ·refine⟨bK _,hlen,hO.r,hO.z,jH _,(by show(0:Int)<_;decide),?_⟩;have:=hO.v;simp only at this;simp[this,val]
   ·exact wk ⟨sR ae,sR ae,sR ae,sR ae,sR ae,⟨_,ae,au.of_eq (az (λx=>AV.c (C.I .u64 x)) ea)⟩,sR ae,sR ae,sR ae,sR ae,ah⟩ ⟨bR ae,ah⟩
   ·rintro⟨k,o,c⟩ hI;have hlen:o.length=a.length+b.length:=hI.len;have oF:0≤c:=hI.c0;have lJ:c<4294967296:=hI.c1;refine rr ae (aj ?_);refine ax ae (λh2=>?_) (λh2=>?_)
    ·have h2:k<b.length:=by simpa using h2
     have gb:=cZ hb k;have go:=cZ hI.r (i+k);simp only at go;have gm:=Hg ga.1 af gb.1 af;refine aC (ai (aj (aK (rr ae (rr ae ?_ (hp:=jN))))));have yb:((i:Int)+(k:Int)).toNat=i+k:=af;have e0:IntKind.wrap .u64 (IntKind.wrap .u64 (IntKind.wrap .u64 (a.getD i 0*IntKind.wrap .u64 (b.getD (k:Int).toNat 0))+IntKind.wrap .u64 (o.getD ((i:Int)+(k:Int)).toNat 0))+c)=a.getD i 0*b.getD k 0+o.getD (i+k) 0+c:=by rw[yb,bw,wrap_u64 (b.getD k 0) af af,wrap_u64 (o.getD (i+k) 0) af af,wrap_u64 (a.getD i 0*b.getD k 0) af af,wrap_u64 (a.getD i 0*b.getD k 0+o.getD (i+k) 0) af af,wrap_u64 _ af af]
     have hn:=hI.next h h2 ha hb;simp only at hn;generalize ht:a.getD i 0*b.getD k 0+o.getD (i+k) 0+c=s at hn e0;have e1:IntKind.wrap .u32 s=s%4294967296:=by simp[IntKind.wrap,IntKind.bits,IntKind.signed]
     have e2:s.fdiv (2^(min (32:Int).toNat (IntKind.bits .u64)))=s/4294967296:=by rw[C2 _ ak];rfl
     refine dv (st':=⟨[(0,cS aE a),(1,cS aE b),(5,.c (.X 1005000)),(6,cI i),(8,cU (a.getD i 0)),(9,cI k),(10,cU s),(18,cI a.length),(19,cI i),(28,cI b.length),(29,cI k)],[(1005000,.vec 23 aE o)],12,[]⟩) (wk ⟨sR ae,sR ae,sR ae,sR ae,sR ae,sR ae,sE ae ?_,sR ae,sR ae,sR ae,sR ae,ah⟩ ⟨bR ae,ah⟩) ?_
     ·exact az (λx=>AV.c (C.I .u64 x)) e0
     refine rr ae (rt ae (a7 (ai (rt ae (a8 (k+1,o.set (i+k) (s%4294967296),s/4294967296) hn (by show b.length-(k+1)<b.length-k;omega) (wk ⟨sR ae,sR ae,sR ae,sR ae,sE ae ?_,sR ae,sR ae,sR ae,sR ae,sE ae ?_,ah⟩ ⟨bE ae ?_,ah⟩))))))
     ·exact az (λx=>AV.c (C.I .u64 x)) e2
     ·rfl
     ·rw[e1,yb]
    ·have h2:¬k<b.length:=by simpa using h2
     have hk:k=b.length:=by have:=hI.k;simp only at this;omega
     subst hk;have hd:=hI.done h;have yb:((i:Int)+(b.length:Int)).toNat=i+b.length:=af;have e1:IntKind.wrap .u32 c=c:=wrap_u32 c oF lJ;refine bp (bu (br (bq (ai (rt ae (a7 (ai (rt ae (a8 (i+1,o.set (i+b.length) c) hd pQ (wk ⟨sR ae,sR ae,sR ae,sR ae,sE ae ?_,ah⟩ ⟨bE ae ?_,ah⟩))))))))))
     ·rfl
     ·rw[e1,yb]
  ·have h:¬i<a.length:=by simpa using h
   have hi:i=a.length:=by have:=hO.i;simp only at this;omega
   subst hi;refine bp (bu (br (bq (ai (fS 1005000 ae ae ae (rb ?_))))));refine rc ae ae (wL _) (re ae (aF (aL ar ae (au.of_eq ?_))));have hv:=hO.v;simp only[iV]at hv;rw[pX hO.r];simp only[hv]
def YB(m k:Nat)(hm:(ay m).length≤1099511627776)(hk:(ay k).length≤1099511627776):aG Tryz.prog 171 [cS aE (ay m),cS aE (ay k)] (cS aE (ay (m+k))):=by have:=aiQ (ay m) (ay k) (eH m) (eH k) hm hk;rw[eT,eT,show((m:Int)+(k:Int)).toNat=m+k by omega]at this;exact this
def Rd(m k:Nat)(hm:(ay m).length≤1099511627776)(hk:(ay k).length≤1099511627776):aG Tryz.prog 175 [cS aE (ay m),cS aE (ay k)] (cS aE (ay (m*k))):=by have:=aiT (ay m) (ay k) (eH m) (eH k) hm hk;rw[eT,eT,show((m:Int)*(k:Int)).toNat=m*k by rw[←gq];rfl]at this;exact this
def tY(a b:Int)(ha:Sm a)(hb:Sm b):aG Tryz.prog 105 [aZ a,aZ b] (aZ (a*b)):=by
 refine aX Tryz.func105 ae ae ae ae ae ak ?_;refine rr ae (rb ?_);refine rc ae ae (Rd _ _ ha hb) (rc ae ae (pq _ _) (re ae (aF (aL ar ae (au.of_eq ?_)))));have e2:sg (bN a !=bN b) (a.natAbs*b.natAbs)=a*b:=by have ea:=vb a;have eb:=vb b;generalize a.natAbs=x at ea⊢;generalize b.natAbs=y at eb⊢;cases QG:bN a<;>cases QH:bN b<;>rw[QG]at ea<;>rw[QH]at eb<;>simp only[sg,cM,cP,mN]at ea eb<;>rw[←ea,←eb]<;>simp[sg]<;>grind
 exact az aZ e2
def qy(n:Nat):Nat:=if n=0 then 0 else Nat.log2 n+1
set_option maxHeartbeats 2000000 in
def Lf(n:Nat)(hn:n≤12):aG Tryz.prog 130 [cU n] (cI (qy n)):=by
 have vg:IntKind.wrap .u8 (n:Int)=(n:Int):=by simp[IntKind.wrap,IntKind.bits,IntKind.signed];omega
 have e8:zR Hr (n:Int)=some ((qy n:Nat):Int):=by have:∀m:Fin 13,zR Hr ((m:Nat):Int)=some ((qy m:Nat):Int):=vZ;exact this ⟨n,by omega⟩
 have l4:qy n≤4:=by have:∀m:Fin 13,qy m≤4:=ak;exact this ⟨n,by omega⟩
 have Re:aG Tryz.prog 194 [cU n] (cI (qy n)):=by
  refine aX Tryz.func194 ae ae ae ae ae ak ?_;refine rr ae (aj (rr ae (ax ae (λh=>?_) (λ_=>aC (ai ?_)))))
  ·exfalso;have h:(4294967296:Int)≤(n:Int):=bc h;omega
  refine aj (rr ae (ax ae (λh=>?_) (λ_=>aC (ai ?_))))
  ·exfalso;have h:(65536:Int)≤(n:Int):=bc h;omega
  refine aj (rr ae (ax ae (λh=>?_) (λ_=>aC (ai ?_))))
  ·exfalso;have h:(256:Int)≤(n:Int):=bc h;omega
  refine rb (rx (x:= .c (.I .u8 (qy n:Nat))) (pm:= .le 0 (IntKind.wrap .u8 (n:Int))) ae (Hs ae ae ae ae (by rw[vg];exact e8)) (by rw[vg];exact nO n) (hp:=aR) (re ae (hp:=aR) (aF (aL ar ae (au.of_eq (az (λz=>AV.c (C.I .i64 z)) ?_))))));exact A7 _
 refine aX Tryz.func130 ae ae ae ae ae ak ?_;refine rr ae (aj (ax ae (λh=>by cases h) (λ_=>aC (ai ?_))));exact rb (rc ae ae Re (re ae (aF (aL ar ae (au.refl _)))))
def aiU:∀n:Fin 13,∀j:Fin 4,IntKind.wrap .i64 ((BitVec.ofInt (IntKind.bits .i64) (((n:Nat):Int).fdiv (2^(min ((j:Nat):Int).toNat (IntKind.bits .i64))))&&& BitVec.ofInt (IntKind.bits .i64) 1).toNat:Int)=(((n:Nat)/2^(j:Nat)%2:Nat):Int):=ak
def aiV:∀n:Fin 13,qy n≤4∧(n:Nat)/2^qy n=0:=ak
def aiW(n j:Nat):n/2^j=2*(n/2^(j+1))+n/2^j%2:=by rw[iX,←VX];omega
set_option maxHeartbeats 2000000 in
def aiX(m n:Nat)(hm:m≤2)(hn:n≤12):aG Tryz.prog 174 [cS aE (ay m),cI n] (cS aE (ay (m^n))):=by
 refine aX Tryz.func174 ae ae ae ae ae ak ?_;have z':∀k,k≤12→m^k<18446744073709551616:=by intro k hk;have h1:m^k≤2^k:=F6 hm k;have h2:2^k≤2^12:=jP ak hk;omega
 have hlen:∀k,k≤12→(ay (m^k)).length≤1099511627776:=λk hk=>dG (zZ (z' k hk)) ak
 have Hu:(ay m).length≤1099511627776:=by have:=hlen 1 ak;simpa using this
 have hL:=aiV ⟨n,by omega⟩;simp only at hL;have aiY:aG Tryz.prog 130 [AV.c (num .u64 (n:Int)).1] (cI (qy n)):=by rw[show(AV.c (num .u64 (n:Int)).1)=cU (n:Int)from az (λx=>AV.c (C.I .u64 x)) (wrap_u64 _ af af)];exact Lf n hn
 refine rr ae (rb (rl aE [_] ae ae (re ae (aj (rb (rc ae ae aiY (re ae ?_)))))));refine aK (bA (α:=Nat) (λk=>⟨[(0,cS aE (ay m)),(1,cI n),(5,cS aE (ay (m^(n/2^k)))),(6,cI ((k:Int)-1))],[],3,[]⟩) (λk=>k≤qy n) (λk=>k) (qy n) (bF _) (wk ⟨sR ae,sR ae,sE ae ?_,sR ae,ah⟩ ah) ?_)
 ·rw[hL.2];rfl
 intro k hk;refine aj (rr ae ?_);refine ax ae (λh=>?_) (λh=>?_)
 ·have h:(k:Int)-1≥0:=by simpa using h
  obtain⟨j,rfl⟩:∃j,k=j+1:=⟨k-1,by omega⟩;have hle:n/2^(j+1)≤12:=dG (Df _ _) hn;have Gv:n/2^j≤12:=dG (Df _ _) hn;have dc:=aiW n j;have ej:(((j+1:Nat):Int)-1)=(j:Int):=af;have esq:m^(n/2^(j+1))*m^(n/2^(j+1))=m^(2*(n/2^(j+1))):=by rw[←oY];congr 1;omega
  have hp:=Rd _ _ (hlen _ hle) (hlen _ hle);rw[esq]at hp;refine aC (ai (aj (aK (rb (rc ae ae hp (re ae ?_))))));rw[ej];have uW:=aiU ⟨n,by omega⟩ ⟨j,by omega⟩;simp only at uW;refine rr ae ?_;refine ax ae (λh2=>?_) (λh2=>?_)
  ·have h2:n/2^j%2=1:=by have h2:=eq_of_beq h2;rw[uW]at h2;omega
   have iJ:=Rd (m^(2*(n/2^(j+1)))) m (hlen _ af) Hu;rw[←iX,show(2*(n/2^(j+1))).succ=n/2^j by omega]at iJ;refine cG (rc ae ae iJ (re ae (a7 (ai (rt ae (a8 j af pP ck))))))
  ·have h2:n/2^j%2=0:=by
    rw[uW]at h2;have h2:¬((n/2^j%2:Nat):Int)=1:=λe=>by rw[e]at h2;cases h2
    omega
   refine aC (a7 (ai (rt ae (a8 j af pP (wk ⟨sR ae,sR ae,sE ae ?_,sR ae,ah⟩ ah)))));rw[show 2*(n/2^(j+1))=n/2^j by omega]
 ·have h:¬((k:Int)-1≥0):=by simpa using h
  have:k=0:=af;subst this;refine bp (bu (br (bq (ai (rr ae (aF (aL ar ae (au.of_eq ?_))))))));rw[xI,Nat.div_one]
def ai0(n:Nat)(hn:n≤12):aG Tryz.prog 104 [aZ 2,cI n] (.t [(true,av .z ((2^n:Nat):Int)),(false,[.I .i64 0])]):=by
 refine aX Tryz.func104 ae ae ae ae ae ak ?_;refine rr ae (aj (rb ?_));refine rg 8 ae ae (λh=>?_) (λh=>?_)
 ·exfalso;have h:(n:Int)<0:=cd;omega
 ·refine re ae (ax ae (λh2=>?_) (λh2=>?_))
  ·exfalso;have h2:(n:Int)>4096:=gR;omega
  ·refine aC (ai (rb ?_));refine rg 15 ae ae (λh3=>by simp[bN]at h3) (λh3=>?_);refine rc ae ae (aiX 2 n ak hn) (rc ae ae (pq _ _) (re ae (aF (aL ar ae (au.of_eq ?_)))));rfl
end Go.El
namespace Go.El
open Go Go.RowKit
def mY.fs{P:Program}{f:FuncId}{args:List AV}{E:TypeId}{T:ET}{xs:List T.den}(h:mY P f args E T xs):aG P f args (.c (.S T xs)):=by
 refine⟨h.call,ae,λH W vs hs hv cs=>?_⟩;obtain⟨e,w',fr,⟨v,H',e1,jK,hle,lK,eI,YC⟩,h2⟩:=h.spec H W vs hs hv cs;refine⟨e,w',fr,?_,h2⟩;rcases jK with⟨hγ,hx⟩|⟨b,cap,us,hγ,hh,j9,ru,hlen,hr,hN,hz⟩
 ·subst hx;refine⟨v,H',e1,?_,hle,lK,eI,YC⟩;have hγ:v= .slice none 0 0:=hγ;exact⟨none,0,hγ,by simp,by simp,.inl ae⟩
 ·have hγ:v= .slice (some ⟨b,0,none⟩) xs.length cap:=hγ;have tO:cC H' (λb' o=>if b'=b then(if o<xs.length*T.n then us[o]? else none)else H' b' o):=by
   intro b' o v hv;by_cases e:b'=b
   ·subst e;have:H' b' o=none:=hz o;rw[this]at hv;cases hv
   ·simp[e,hv]
  refine⟨v,λb' o=>if b'=b then(if o<xs.length*T.n then us[o]? else none)else H' b' o,e1,?_,cC.trans hle tO,?_,?_,YC⟩
  ·refine⟨some ⟨b,0,none⟩,cap,hγ,ru,hlen,?_⟩;by_cases hx:xs=[]
   ·exact .inl hx
   ·refine .inr ⟨b,0,ae,λk hk=>⟨(us.drop (k*T.n)).take T.n,dh.length T _ _ (hr k hk),dh.mono tO T _ _ (hr k hk),λj hj=>?_⟩⟩;have dL:(k+1)*T.n≤cap*T.n:=dY _ af;have DZ:(k+1)*T.n≤xs.length*T.n:=dY _ af;rw[fP,iZ]at dL DZ;simp only[fD,F']at hj;have bh:k*T.n+j<xs.length*T.n:=af;simp only[cM,eR,uJ,we,bh];exact ct af
  ·intro b' o dm;have hb:W.heap.size≤b:=hN;have:b'≠b:=af;simp only[this,cP];exact lK b' o dm
  ·intro b' o u hv;by_cases e:b'=b
   ·subst e;simp only[cM]at hv;split at hv
    ·simp[World.cell?,hh,hv]
    ·cases hv
   ·simp only[e,cP]at hv;exact eI b' o u hv
def YD{P:Program}{n:Nat}{x y:Code}{st:St}{Q:fA}{α:Type}(stM:α→St)(φ:α→Prop)(Hv:∀m,φ m→TR P n y (stM m) Q)(h:(∀m,φ m→fZ n .normal (stM m) (zI P y Q))→TR P n x st (zI P y Q)):TR P n (.seq x y) st Q:=
 aj (h λm hm=>ai (Hv m hm))
def wO{P:Program}{n:Nat}{x y:Code}{st:St}{Q:fA}(st1:St)(Hv:TR P n y st1 Q)(h:fZ n .normal st1 (zI P y Q)→TR P n x st (zI P y Q)):TR P n (.seq x y) st Q:=
 aj (h (ai Hv))
def my{n:Nat}{e:Exit}{st st':St}{Q:fA}(h:fZ n e st' Q)(hw:Wk st st'):fZ n e st Q:=PW hw h
end Go.El
namespace Go.El
open Go Go.Proofs
def BT(x c:Int)(s:Nat)(hx:0≤x)(hd:x%2^s=0)(hc:0≤c)(eL:c<2^s)(h:x+c<18446744073709551616):
  IntKind.wrap .u64 ((BitVec.ofInt (IntKind.bits .u64) x|||BitVec.ofInt (IntKind.bits .u64) c).toNat:Int)=x+c:=by
 obtain⟨X,rfl⟩:=C5 hx
 obtain⟨C,rfl⟩:=C5 hc
 have e1:((X:Int)%2^s)=((X%2^s:Nat):Int):=be
 rw[e1]at hd
 have hd:X%2^s=0:=af
 have eL:C<2^s:=by
  have:((C:Nat):Int)<((2^s:Nat):Int):=by rw[uK];exact eL
  omega
 have e2:(BitVec.ofInt (IntKind.bits .u64) (X:Int)|||BitVec.ofInt (IntKind.bits .u64) (C:Int)).toNat=X+C:=by
  rw[OK,OK,BitVec.toNat_or,OO,OO,show IntKind.bits .u64=64 from ae,q9 af,q9 af];have e3:X=2^s*(X/2^s):=by have:=xD X (2^s);omega
  rw[e3,←Nat.two_pow_add_eq_or_of_lt eL]
 rw[e2,wrap_u64 _ af af];omega
def Aa(x:Int)(s:Nat)(h0:0≤x)(hs:s≤64)(h:x*2^s<18446744073709551616):IntKind.wrap .u64 (x*2^(min ((s:Nat):Int).toNat (IntKind.bits .u64)))=x*2^s:=by rw[bw,show min s (IntKind.bits .u64)=s from tx hs,wrap_u64 _ (j4 h0 (Int.pow_nonneg ak)) h]
def Ab(x:Int)(s:Nat)(hs:s≤64):x.fdiv (2^(min ((s:Nat):Int).toNat (IntKind.bits .u64)))=x/2^s:=by rw[bw,show min s (IntKind.bits .u64)=s from tx hs,C2 _ (Int.pow_nonneg ak)]
def YE(x:Int)(s:Nat)(hs:s≤32):x.fdiv (2^(min ((s:Nat):Int).toNat (IntKind.bits .u32)))=x/2^s:=by rw[bw,show min s (IntKind.bits .u32)=s from tx hs,C2 _ (Int.pow_nonneg ak)]
def ai1(x:Nat)(h0:0<x)(hx:x<4294967296):∃l:Nat,aG Tryz.prog 193 [cW x] (cI l)∧l≤32∧1≤l∧x<2^l∧2^l≤2*x:=by
 have tail:∀(y n:Nat),y<256→n≤24→∃l:Nat,l≤8∧y<2^l∧(2^l≤2*y∨y=0)∧zR Hr (y:Int)=some (l:Int):=by intro y n hy _;obtain⟨l,e,h1,h2,h3⟩:=YA hy;exact⟨l,h1,h2,h3,e⟩
 obtain⟨y,n,hn,hy,ex⟩:∃y n:Nat,(n=0∧y=x∧x<256∨n=8∧y=x/256∧256≤x∧x<65536∨n=16∧y=x/65536∧65536≤x∧x<16777216∨n=24∧y=x/65536/256∧16777216≤x)∧y<256∧0<y:=by
  by_cases a1:x<256
  ·exact⟨x,0,.inl ⟨ae,ae,a1⟩,a1,h0⟩
  ·by_cases a2:x<65536
   ·exact⟨x/256,8,.inr (.inl ⟨ae,ae,by omega,a2⟩),by omega,by omega⟩
   ·by_cases a3:x<16777216
    ·exact⟨x/65536,16,.inr (.inr (.inl ⟨ae,ae,by omega,a3⟩)),by omega,by omega⟩
    ·exact⟨x/65536/256,24,.inr (.inr (.inr ⟨ae,ae,by omega⟩)),by omega,by omega⟩
 obtain⟨l,el,h1,h2,h3⟩:=YA hy;have h3:2^l≤2*y:=af;have l1:1≤l:=by
  by_cases e:l=0
  ·subst e;simp at h2;omega
  ·omega
 refine⟨n+l,?_,by omega,by omega,?_,?_⟩
 ·have Lg:(x:Int).fdiv (2^(min ((16:Nat):Int).toNat (IntKind.bits .u32)))=((x/65536:Nat):Int):=by rw[YE _ _ af];omega
  have YF:∀z:Nat,(z:Int).fdiv (2^(min ((8:Nat):Int).toNat (IntKind.bits .u32)))=((z/256:Nat):Int):=λz=>by rw[YE _ _ af];omega
  have vg:∀z:Nat,z<256→IntKind.wrap .u8 (z:Int)=(z:Int):=λz hz=>by simp[IntKind.wrap,IntKind.bits,IntKind.signed];omega
  refine aX Tryz.func193 ae ae ae ae ae ak ?_;refine rr ae (aj (rr ae ?_));refine ax ae (λc1=>?_) (λc1=>?_)
  ·have c1:65536≤x:=by have c1:(65536:Int)≤(x:Int):=bc c1;omega
   refine rr ae (hp:=aR) (rt ae (ai (aj (rr ae ?_))));refine ax ae (λc2=>?_) (λc2=>?_)
   ·have c2:256≤x/65536:=by have c2:(256:Int)≤(x:Int).fdiv (2^(min ((16:Nat):Int).toNat (IntKind.bits .u32))):=bc c2;rw[Lg]at c2;omega
    refine rr ae (hp:=aR) (rt ae (hp:=aR) (ai ?_));refine dv (st':=⟨[(0,cW y),(2,cI n)],[],9,[]⟩) (wk ⟨⟨_,ae,au.of_eq (az (λz=>AV.c (C.I .u32 z)) (by show Int.fdiv (Int.fdiv (x:Int) (2^(min ((16:Nat):Int).toNat (IntKind.bits .u32)))) (2^(min ((8:Nat):Int).toNat (IntKind.bits .u32)))=_;rw[Lg,YF];omega))⟩,⟨_,ae,au.of_eq (az (λz=>AV.c (C.I .i64 z)) af)⟩,ah⟩ ah) ?_;refine rb (rx (x:= .c (.I .u8 l)) (pm:= .le 0 (IntKind.wrap .u8 (y:Int))) ae (Hs ae ae ae ae Ow) Ox (hp:=aR) (re ae (hp:=aR) (aF (aL ar ae (au.of_eq (az (λz=>AV.c (C.I .i64 z)) ?_))))));show(n:Int)+(l:Int)=((n+l:Nat):Int);omega
   ·have c2:x/65536<256:=by have c2:¬(256:Int)≤(x:Int).fdiv (2^(min ((16:Nat):Int).toNat (IntKind.bits .u32))):=bC c2;rw[Lg]at c2;omega
    refine aC (ai ?_);refine dv (st':=⟨[(0,cW y),(2,cI n)],[],5,[]⟩) (wk ⟨⟨_,ae,au.of_eq (az (λz=>AV.c (C.I .u32 z)) (by show Int.fdiv (x:Int) (2^(min ((16:Nat):Int).toNat (IntKind.bits .u32)))=_;rw[Lg];omega))⟩,⟨_,ae,au.of_eq (az (λz=>AV.c (C.I .i64 z)) af)⟩,ah⟩ ah) ?_;refine rb (rx (x:= .c (.I .u8 l)) (pm:= .le 0 (IntKind.wrap .u8 (y:Int))) ae (Hs ae ae ae ae Ow) Ox (hp:=aR) (re ae (hp:=aR) (aF (aL ar ae (au.of_eq (az (λz=>AV.c (C.I .i64 z)) ?_))))));show(n:Int)+(l:Int)=((n+l:Nat):Int);omega
  ·have c1:x<65536:=by have c1:¬(65536:Int)≤(x:Int):=bC c1;omega
   refine aC (ai (aj (rr ae ?_)));refine ax ae (λc2=>?_) (λc2=>?_)
   ·have c2:256≤x:=by have c2:(256:Int)≤(x:Int):=bc c2;omega
    refine rr ae (hp:=aR) (rt ae (hp:=aR) (ai ?_));refine dv (st':=⟨[(0,cW y),(2,cI n)],[],5,[]⟩) (wk ⟨⟨_,ae,au.of_eq (az (λz=>AV.c (C.I .u32 z)) (by show Int.fdiv (x:Int) (2^(min ((8:Nat):Int).toNat (IntKind.bits .u32)))=_;rw[YF];omega))⟩,⟨_,ae,au.of_eq (az (λz=>AV.c (C.I .i64 z)) af)⟩,ah⟩ ah) ?_;refine rb (rx (x:= .c (.I .u8 l)) (pm:= .le 0 (IntKind.wrap .u8 (y:Int))) ae (Hs ae ae ae ae Ow) Ox (hp:=aR) (re ae (hp:=aR) (aF (aL ar ae (au.of_eq (az (λz=>AV.c (C.I .i64 z)) ?_))))));show(n:Int)+(l:Int)=((n+l:Nat):Int);omega
   ·have c2:x<256:=by have c2:¬(256:Int)≤(x:Int):=bC c2;omega
    refine aC (ai ?_);refine dv (st':=⟨[(0,cW y),(2,cI n)],[],3,[]⟩) (wk ⟨⟨_,ae,au.of_eq (az (λz=>AV.c (C.I .u32 z)) (show(x:Int)=(y:Int)by omega))⟩,⟨_,ae,au.of_eq (az (λz=>AV.c (C.I .i64 z)) af)⟩,ah⟩ ah) ?_;refine rb (rx (x:= .c (.I .u8 l)) (pm:= .le 0 (IntKind.wrap .u8 (y:Int))) ae (Hs ae ae ae ae Ow) Ox (hp:=aR) (re ae (hp:=aR) (aF (aL ar ae (au.of_eq (az (λz=>AV.c (C.I .i64 z)) ?_))))));show(n:Int)+(l:Int)=((n+l:Nat):Int);omega
 ·rcases hn with⟨e1,e2,a⟩|⟨e1,e2,a⟩|⟨e1,e2,a⟩|⟨e1,e2,a⟩
  ·subst e1 e2;simpa using h2
  ·subst e1;rw[oY];omega
  ·subst e1;rw[oY];omega
  ·subst e1;rw[oY];omega
 ·rcases hn with⟨e1,e2,a⟩|⟨e1,e2,a⟩|⟨e1,e2,a⟩|⟨e1,e2,a⟩
  ·subst e1 e2;simpa using h3
  ·subst e1;rw[oY];omega
  ·subst e1;rw[oY];omega
  ·subst e1;rw[oY];omega
def ai2(x:Nat)(h0:0<x)(hx:x<4294967296):∃s:Nat,aG Tryz.prog 274 [cW x] (cI s)∧s≤31∧2147483648≤x*2^s∧x*2^s<4294967296:=by
 obtain⟨l,hf,h1,h2,h3,h4⟩:=ai1 x h0 hx;have e:2^l*2^(32-l)=4294967296:=by rw[←oY,show l+(32-l)=32 by omega]
 have hp:0<2^(32-l):=mh ak;have a1:x*2^(32-l)<2^l*2^(32-l):=VS h3 hp;have a2:2^l*2^(32-l)≤2*x*2^(32-l):=dY _ h4;rw[xG]at a2;refine⟨32-l,?_,by omega,by omega,by omega⟩;refine aX Tryz.func274 ae ae ae ae ae ak ?_;refine rr ae (rb (rc ae ae hf (re ae (hp:=aR) (aF (aL ar ae (au.of_eq (az (λz=>AV.c (C.I .i64 z)) ?_)))))));show(32:Int)-(l:Int)=((32-l:Nat):Int);omega
set_option maxHeartbeats 1000000 in
def ai3(a:List Int)(d:Int)(ha:bT a)(vd:0<d)(hd:d<4294967296)(la:a.length≤1099511627776):aG Tryz.prog 273 [cS aE a,cU d] (.t [(false,[.S aE (ay (val a/d).toNat)]),(false,[.I .u64 (val a%d)])]):=by
 refine aX Tryz.func273 ae ae ae ae ae ak ?_;refine rr ae (rb ?_);refine rm aE a.length ae ae ae ae ae ae (lN .u32) ae ?_ ?_ ?_
 ·show _*4≤_;omega
 ·show _*1≤_;omega
 refine re ae (rr ae (aj (rr ae ?_)));refine aK (bA (α:=Nat×List Int×Int) (λx=>⟨[(0,cS aE a),(1,cU d),(6,.c (.X 1002000)),(7,cU x.2.2),(8,cI ((x.1:Int)-1))],[(1002000,.vec 23 aE x.2.1)],4,[]⟩) (Eg a d) (λx=>x.1) (a.length,List.replicate a.length 0,0) ?_ ck ?_)
 ·exact⟨bF _,by simp,so _,jH _,vd,by simp[val]⟩
 ·rintro⟨k,q,r⟩ hI;have hlen:q.length=a.length:=hI.len;have h0:0≤r:=hI.r0;have h1:r<d:=hI.r1;have hk:k≤a.length:=hI.k;refine aj (rr ae ?_);refine ax ae (λh=>?_) (λh=>?_)
  ·have h:(k:Int)-1≥0:=by simpa using h
   obtain⟨j,rfl⟩:∃j,k=j+1:=⟨k-1,by omega⟩;have ej:(((j+1:Nat):Int)-1).toNat=j:=af;have g:=cZ ha j;have hb:=K3 h0 h1 g.1 g.2 hd;have hn:=hI.next ha hd;refine aC (ai (aj (aK (rr ae (hp:=aR) ?_))));have e0:IntKind.wrap .u64 ((BitVec.ofInt (IntKind.bits .u64) (IntKind.wrap .u64 (r*2^(min ((32:Nat):Int).toNat (IntKind.bits .u64))))|||BitVec.ofInt (IntKind.bits .u64) (IntKind.wrap .u64 (a.getD (((j+1:Nat):Int)-1).toNat 0))).toNat:Int)=r*4294967296+a.getD j 0:=by rw[ej,Aa r 32 h0 af af,wrap_u64 (a.getD j 0) af af,BT (r*2^32) (a.getD j 0) 32 af (F8 _ _) af af af,show(2:Int)^32=4294967296 from ae]
   generalize ht:r*4294967296+a.getD j 0=s at hn hb e0;have e1:IntKind.wrap .u32 (IntKind.wrap .u64 (s.tdiv d))=s/d:=by rw[AU af,wrap_u64 _ af af,wrap_u32 _ af af]
   have e2:s.tmod d=s%d:=qZ af;refine dv (st':=⟨[(0,cS aE a),(1,cU d),(6,.c (.X 1002000)),(8,cI (((j+1:Nat):Int)-1)),(9,cU s)],[(1002000,.vec 23 aE q)],6,[]⟩) (wk ⟨sR ae,sR ae,sR ae,sR ae,sE ae ?_,ah⟩ ⟨bR ae,ah⟩) ?_
   ·exact az (λz=>AV.c (C.I .u64 z)) e0
   refine rr ae (rt ae (a7 (ai (rt ae (a8 (j,q.set j (s/d),s%d) hn pP (wk ⟨sR ae,sR ae,sR ae,sE ae ?_,sE ae ?_,ah⟩ ⟨bE ae ?_,ah⟩))))))
   ·exact az (λz=>AV.c (C.I .u64 z)) e2
   ·refine az (λz=>AV.c (C.I .i64 z)) ?_;show((j+1:Nat):Int)-1-1=(j:Int)-1;omega
   ·rw[e1,ej]
  ·have h:¬((k:Int)-1≥0):=by simpa using h
   have:k=0:=af;subst this;refine bp (bu (br (bq (ai (fS 1002000 ae ae ae (rb ?_))))));refine rc ae ae (wL _) (re ae (aF (aL ar ae (au.of_eq ?_))));have hv:val a=val q*d+r:=hI.v;have hr:bT q:=hI.r;have eq:val a/d=val q:=by rw[hv,xH,C9 _ _ af,F1 h0 h1];omega
   have er:val a%d=r:=by rw[hv,xH,VR,iU h0 h1]
   rw[pX hr,eq,er];rfl
def ai4{a:List Int}(ha:bT a)(s i:Nat):0≤val (a.take i)*2^s/4294967296^i∧val (a.take i)*2^s/4294967296^i<2^s:=by have h1:=mi (jQ ha i);have h2:=nR (jQ ha i);have h3:=uQ (m:=(a.take i).length) (n:=i) cO;have h4:=jR i;have h5:(0:Int)<2^s:=sn ak;refine⟨xB (j4 h1 af) af,C' h4 ?_⟩;rw[fc];exact Int.mul_lt_mul_of_pos_left af h5
def ai5(a:List Int)(s i:Nat):
  bY (i+1) (val (a.take (i+1))*2^s)=bY i (val (a.take i)*2^s)++[(a.getD i 0*2^s+val (a.take i)*2^s/4294967296^i)%4294967296]∧
  val (a.take (i+1))*2^s/4294967296^(i+1)=(a.getD i 0*2^s+val (a.take i)*2^s/4294967296^i)/4294967296:=by
 have h4:=jR i
 have e:val (a.take (i+1))*2^s=val (a.take i)*2^s+a.getD i 0*2^s*4294967296^i:=by rw[kV,lF,j5,fc (4294967296^i),←j5]
 have e2:val (a.take (i+1))*2^s/4294967296^i=a.getD i 0*2^s+val (a.take i)*2^s/4294967296^i:=by rw[e,C9 _ _ af,xH]
 refine⟨?_,by rw[K5,e2]⟩
 rw[Ej,e2,e,QU]
def Lh(xs:List Int)(n:Nat)(w:Int):(xs++List.replicate (n+1) 0).set xs.length w=(xs++[w])++List.replicate n 0:=by rw[pS _ _ (bF _),iG,v9,Dd,nj];rfl
set_option maxHeartbeats 2000000 in
def YG(a:List Int)(s:Nat)(ha:bT a)(hs:s≤31)(la:a.length≤1099511627776):mY Tryz.prog 275 [cS aE a,cI s] 23 aE (bY (a.length+1) (val a*2^s)):=by
 refine zS Tryz.func275 ae ae ae ae ak ?_;have iJ:(2:Int)^s≤2^31:=by have:=jP (show 2>0 by decide) hs;have e1:(2:Int)^s=((2^s:Nat):Int):=be;omega
 have jk:(0:Int)<2^s:=sn ak;refine rr ae (rb ?_);refine rm aE (a.length+1) ae ae ae ae ae ae (lN .u32) ae ?_ ?_ ?_
 ·show _*4≤_;omega
 ·show _*1≤_;omega
 refine re ae (rr ae (aj (rr ae ?_)));refine aK (bA (α:=Nat) (λi=>⟨[(0,cS aE a),(1,cI s),(5,.c (.X 1003000)),(6,cU (val (a.take i)*2^s/4294967296^i)),(14,cI a.length),(15,cI i)],[(1003000,.vec 23 aE (bY i (val (a.take i)*2^s)++List.replicate (a.length+1-i) 0))],4,[]⟩) (λi=>i≤a.length) (λi=>a.length-i) 0 (bK _) (wk ⟨sR ae,sR ae,sR ae,sE ae ?_,sR ae,sR ae,ah⟩ ⟨bE ae ?_,ah⟩) ?_)
 ·simp[val];rfl
 ·simp[bY]
 intro i hi;have hc:=ai4 ha s i;have eS:=ai5 a s i;have mU:(bY i (val (a.take i)*2^s)).length=i:=tV _ _;generalize wB:val (a.take i)*2^s/4294967296^i=c at hc eS;refine rr ae (aj ?_);refine ax ae (λh=>?_) (λh=>?_)
 ·have h:i<a.length:=by simpa using h
  have g:=cZ ha i;have jq:0≤a.getD i 0*2^s:=j4 g.1 af;have qi:a.getD i 0*2^s≤4294967295*2^31:=A4 af iJ af ak;refine aC (ai (aj (aK (rr ae (rr ae (hp:=aR) ?_)))));have e0:IntKind.wrap .u64 ((BitVec.ofInt (IntKind.bits .u64) (IntKind.wrap .u64 (IntKind.wrap .u64 (a.getD (i:Int).toNat 0)*2^(min ((s:Nat):Int).toNat (IntKind.bits .u64))))|||BitVec.ofInt (IntKind.bits .u64) c).toNat:Int)=a.getD i 0*2^s+c:=by rw[bw i,wrap_u64 (a.getD i 0) af af,Aa _ s g.1 af af,BT _ c s jq (F8 _ _) hc.1 hc.2 af]
  generalize ht:a.getD i 0*2^s+c=t at*;refine dv (st':=⟨[(0,cS aE a),(1,cI s),(5,.c (.X 1003000)),(7,cI i),(8,cU t),(14,cI a.length),(15,cI i)],[(1003000,.vec 23 aE (bY i (val (a.take i)*2^s)++List.replicate (a.length+1-i) 0))],7,[]⟩) (wk ⟨sR ae,sR ae,sR ae,sR ae,sE ae ?_,sR ae,sR ae,ah⟩ ⟨bR ae,ah⟩) ?_
  ·exact az (λz=>AV.c (C.I .u64 z)) e0
  have kA:(bY i (val (a.take i)*2^s)++List.replicate (a.length+1-i) (0:Int)).length=a.length+1:=by rw[ko,mU,jv];omega
  refine rr ae (hp:=aR) (rt ae (hp:=aR) (a7 (ai (rt ae (a8 (i+1) h pQ (wk ⟨sR ae,sR ae,sR ae,sE ae ?_,sR ae,sR ae,ah⟩ ⟨bE ae ?_,ah⟩))))))
  ·refine az (λz=>AV.c (C.I .u64 z)) ?_;rw[eS.2];exact Ab t 32 af
  ·refine az (aJ.vec 23 aE) ?_;have e1:IntKind.wrap .u32 t=t%4294967296:=Ou;have e2:=Lh (bY i (val (a.take i)*2^s)) (a.length-i) (t%4294967296);rw[mU,show a.length-i+1=a.length+1-i by omega]at e2;rw[e1,bw,e2,eS.1,show a.length-i=a.length+1-(i+1)by omega]
 ·have h:¬i<a.length:=by simpa using h
  have e:i=a.length:=af;subst e;have Ac:c<4294967296:=af;have kA:(bY a.length (val (a.take a.length)*2^s)++List.replicate (a.length+1-a.length) (0:Int)).length=a.length+1:=by rw[ko,mU,jv];omega
  refine bp (bu (br (bq (ai (rr ae (hp:=aR) (rr ae ?_))))));refine dv (st':=⟨[(4,.c (.X 1003000))],[(1003000,.vec 23 aE (bY (a.length+1) (val a*2^s)))],20,[]⟩) (wk ⟨sR ae,ah⟩ ⟨bE ae ?_,ah⟩) (aF (ya (id:=1003000) ar ae ae));refine az (aJ.vec 23 aE) ?_;have e2:=Lh (bY a.length (val (a.take a.length)*2^s)) 0 c;rw[mU]at e2;rw[wrap_u32 c hc.1 Ac,bw,show a.length+1-a.length=0+1 by omega,e2,wa,kp,Ej,iV];rw[iV]at wB;rw[wB,iU hc.1 Ac]
def ai6(t:Int)(s:Nat)(nY:0≤t)(ht:t<18446744073709551616)(hs:s≤31):
  IntKind.wrap .u64 ((BitVec.ofInt (IntKind.bits .u64) t&&& BitVec.ofInt (IntKind.bits .u64) (IntKind.wrap .u64 (IntKind.wrap .u64 (1*2^(min ((s:Nat):Int).toNat (IntKind.bits .u64)))-1))).toNat:Int)=t%2^s:=by
 have hp:2^s≤2^31:=jP ak hs
 have cK:0<2^s:=mh ak
 have e0:(2:Int)^s=((2^s:Nat):Int):=be
 obtain⟨T,rfl⟩:=C5 nY
 rw[Aa 1 s ak af af,iY,wrap_u64 (2^s-1) af af]
 have e1:(2:Int)^s-1=((2^s-1:Nat):Int):=af
 rw[e1,OK,OK,BitVec.toNat_and,OO,OO,show IntKind.bits .u64=64 from ae,q9 af,q9 af,Nat.and_two_pow_sub_one_eq_mod]
 have:=iq T cK
 rw[wrap_u64 _ af af,e0,Gb]
set_option maxHeartbeats 1000000 in
def ai7(a:List Int)(s:Nat)(ha:bT a)(hs:s≤31)(la:a.length≤1099511627776):aG Tryz.prog 277 [cS aE a,cI s] (cS aE (ay (val a/2^s).toNat)):=by
 refine aX Tryz.func277 ae ae ae ae ae ak ?_;have iJ:(2:Int)^s≤2^31:=by have:=jP (show 2>0 by decide) hs;have e1:(2:Int)^s=((2^s:Nat):Int):=be;omega
 have vd:(0:Int)<2^s:=sn ak;refine rr ae (rb ?_);refine rm aE a.length ae ae ae ae ae ae (lN .u32) ae ?_ ?_ ?_
 ·show _*4≤_;omega
 ·show _*1≤_;omega
 refine re ae (rr ae (aj (rr ae ?_)));refine aK (bA (α:=Nat×List Int×Int) (λx=>⟨[(0,cS aE a),(1,cI s),(5,.c (.X 1002000)),(6,cU x.2.2),(7,cI ((x.1:Int)-1))],[(1002000,.vec 23 aE x.2.1)],4,[]⟩) (Eg a (2^s)) (λx=>x.1) (a.length,List.replicate a.length 0,0) ?_ ck ?_)
 ·exact⟨bF _,by simp,so _,jH _,vd,by simp[val]⟩
 ·rintro⟨k,q,r⟩ hI;have hlen:q.length=a.length:=hI.len;have h0:0≤r:=hI.r0;have h1:r<2^s:=hI.r1;have hk:k≤a.length:=hI.k;refine aj (rr ae ?_);refine ax ae (λh=>?_) (λh=>?_)
  ·have h:(k:Int)-1≥0:=by simpa using h
   obtain⟨j,rfl⟩:∃j,k=j+1:=⟨k-1,by omega⟩;have ej:(((j+1:Nat):Int)-1).toNat=j:=af;have g:=cZ ha j;have hb:=K3 h0 h1 g.1 g.2 af;have hn:=hI.next ha af;refine aC (ai (aj (aK (rr ae (hp:=aR) ?_))));have e0:IntKind.wrap .u64 ((BitVec.ofInt (IntKind.bits .u64) (IntKind.wrap .u64 (r*2^(min ((32:Nat):Int).toNat (IntKind.bits .u64))))|||BitVec.ofInt (IntKind.bits .u64) (IntKind.wrap .u64 (a.getD (((j+1:Nat):Int)-1).toNat 0))).toNat:Int)=r*4294967296+a.getD j 0:=by rw[ej,Aa r 32 h0 af af,wrap_u64 (a.getD j 0) af af,BT (r*2^32) (a.getD j 0) 32 af (F8 _ _) af af af,show(2:Int)^32=4294967296 from ae]
   generalize ht:r*4294967296+a.getD j 0=t at hn hb e0;refine dv (st':=⟨[(0,cS aE a),(1,cI s),(5,.c (.X 1002000)),(7,cI (((j+1:Nat):Int)-1)),(8,cU t)],[(1002000,.vec 23 aE q)],6,[]⟩) (wk ⟨sR ae,sR ae,sR ae,sR ae,sE ae ?_,ah⟩ ⟨bR ae,ah⟩) ?_
   ·exact az (λz=>AV.c (C.I .u64 z)) e0
   refine rr ae (hp:=aR) (rt ae (hp:=aR) (a7 (ai (rt ae (a8 (j,q.set j (t/2^s),t%2^s) hn pP (wk ⟨sR ae,sR ae,sR ae,sE ae ?_,sE ae ?_,ah⟩ ⟨bE ae ?_,ah⟩))))))
   ·exact az (λz=>AV.c (C.I .u64 z)) (ai6 t s hb.1 hb.2.1 hs)
   ·refine az (λz=>AV.c (C.I .i64 z)) ?_;show((j+1:Nat):Int)-1-1=(j:Int)-1;omega
   ·refine az (aJ.vec 23 aE) ?_;rw[Ab t s af,ej,wrap_u32 _ af af]
  ·have h:¬((k:Int)-1≥0):=by simpa using h
   have:k=0:=af;subst this;refine bp (bu (br (bq (ai (fS 1002000 ae ae ae (rb ?_))))));refine rc ae ae (wL _) (re ae (aF (aL ar ae (au.of_eq ?_))));have hv:val a=val q*2^s+r:=hI.v;have hr:bT q:=hI.r;have eq:val a/2^s=val q:=by rw[hv,xH,C9 _ _ af,F1 h0 h1];omega
   rw[pX hr,eq]
def rK(n:Int):IntKind.wrap .u64 n=n%18446744073709551616:=Ou
def yj(n:Int):IntKind.wrap .u32 n=n%4294967296:=Ou
def qA{x y:Int}(h:(x !=y)=true):x≠y:=cd
def qC{x y:Int}(h:(x !=y)=false):x=y:=cd
set_option maxHeartbeats 1000000 in
def ai8(a b:List Int)(ha:bT a)(hb:bT b)(ca:can a)(cb:can b):aG Tryz.prog 172 [cS aE a,cS aE b] (cI (dn (val a) (val b))):=by
 refine aX Tryz.func172 ae ae ae ae ae ak (zL 0 ae λQB=>zL 1 ae λqo=>?_);simp only[ET.n,kT]at QB qo;refine rr ae (aj (rr ae ?_));refine ax ae (λh=>?_) (λh=>?_)
 ·have h:a.length≠b.length:=by have h:=qA h;omega
  refine aj (rr ae ?_);refine ax ae (λh2=>?_) (λh2=>?_)
  ·have h2:a.length<b.length:=by have h2:(a.length:Int)<(b.length:Int):=bc h2;omega
   refine rr ae (aF ?_);repeat(first|refine bW ?_|refine fC ?_|refine ix ?_)
   refine aL ar ae (au.of_eq ?_);rw[dn,aw (Ka ha hb cb h2)];rfl
  ·have h2:¬a.length<b.length:=by have h2:¬(a.length:Int)<(b.length:Int):=bC h2;omega
   refine aC (ai ?_);refine rr ae (aF ?_);repeat(first|refine bW ?_|refine fC ?_|refine ix ?_)
   refine aL ar ae (au.of_eq ?_);have:=Ka hb ha ca af;rw[dn,aq af,aw this];rfl
 ·have hl:a.length=b.length:=by have h:=qC h;omega
  refine aC (ai (aj (rr ae ?_)));refine aK (bA (α:=Nat) (λk=>⟨[(0,cS aE a),(1,cS aE b),(5,cI ((k:Int)-1))],[],3,[]⟩) (λk=>k≤a.length∧a.drop k=b.drop k) (λk=>k) a.length ⟨bF _,by simp[hl]⟩ ck ?_);rintro k ⟨hk,hd⟩;refine aj (rr ae ?_);refine ax ae (λh3=>?_) (λh3=>?_)
  ·simp at h3;obtain⟨j,rfl⟩:∃j,k=j+1:=⟨k-1,by omega⟩;have hj:(((j+1:Nat):Int)-1)=j:=af;have bh:j<a.length:=af;rw[hj];refine aC (ai (aj (aK (rr ae ?_))));have ga:=cZ ha j;have gb:=cZ hb j;refine ax ae (λh4=>?_) (λh4=>?_)
   ·have h4:a.getD j 0≠b.getD j 0:=qA h4;refine aj (rr ae ?_);refine ax ae (λh5=>?_) (λh5=>?_)
    ·have h5:a.getD j 0<b.getD j 0:=bc h5;refine rr ae (aF ?_);repeat(first|refine bW ?_|refine fC ?_|refine ix ?_)
     refine aL ar ae (au.of_eq ?_);rw[dn,aw (Kb ha hb j hd hl bh h5)];rfl
    ·have h5:¬a.getD j 0<b.getD j 0:=bC h5;refine aC (ai ?_);refine rr ae (aF ?_);repeat(first|refine bW ?_|refine fC ?_|refine ix ?_)
     refine aL ar ae (au.of_eq ?_);have:=Kb hb ha j hd.symm hl.symm af af;rw[dn,aq af,aw this];rfl
   ·have e:a.getD j 0=b.getD j 0:=qC h4;refine aC (a7 (ai (rt ae (a8 j ⟨by omega,?_⟩ pP ck))));have Hb:j<b.length:=af;rw[pR bh,pR Hb,hd];simp only[aY,ct bh,ct Hb,De]at e;rw[e]
  ·simp at h3;have:k=0:=af;subst this;refine bp (bu (br (bq (ai ?_))));refine rr ae (aF ?_);repeat(first|refine bW ?_|refine fC ?_|refine ix ?_)
   refine aL ar ae (au.of_eq ?_);simp only[wi]at hd;rw[hd,dn,aq af,aq af];rfl
def Eo(m k:Nat):aG Tryz.prog 172 [cS aE (ay m),cS aE (ay k)] (cI (dn m k)):=by have:=ai8 (ay m) (ay k) (eH m) (eH k) (uO m) (uO k);rw[eT,eT]at this;exact this
set_option maxHeartbeats 2000000 in
def ai9(a b:List Int)(ha:bT a)(hb:bT b)(hl:b.length≤a.length)(hle:val b≤val a)(la:a.length≤1099511627776):aG Tryz.prog 173 [cS aE a,cS aE b] (cS aE (ay (val a-val b).toNat)):=by
 refine aX Tryz.func173 ae ae ae ae ae ak ?_;refine rr ae (rb ?_);refine rm aE a.length ae ae ae ae ae ae (lN .u32) ae ?_ ?_ ?_
 ·show _*4≤_;omega
 ·show _*1≤_;omega
 refine re ae (rr ae (aj (rr ae ?_)));generalize hM:a.length=M;refine aK (bA (α:=Nat×List Int×Int) (λx=>⟨[(0,cS aE a),(1,cS aE b),(5,.c (.X 1002000)),(6,cU x.2.2),(13,cI M),(14,cI x.1)],[(1002000,.vec 23 aE x.2.1)],4,[]⟩) (Hf a b M) (λx=>M-x.1) (0,List.replicate M 0,0) ?_ ?_ ?_)
 ·refine⟨bK _,by simp,so M,?_,jH _,JH,by simp[wq,val]⟩;intro j _;simp only[aY,mM];split<;>rfl
 ·exact ck
 ·rintro⟨i,o,c⟩ hI;have hlen:o.length=M:=hI.len;have oF:0≤c:=hI.c0;have lJ:c≤1:=hI.c1;have hi:i≤M:=hI.i;have ga:=cZ ha i;have gb:=cZ hb i;refine rr ae (aj ?_);refine ax ae (λh=>?_) (λh=>?_)
  ·have h:i<M:=by have h:(i:Int)<(M:Int):=bc h;omega
   have hn:=hI.next h ha hb;simp only at hn;refine aC (ai (aj (aK (rr ae (rr ae (hp:=aR) ?_)))));refine aj (rr ae ?_);refine ax ae (λh2=>?_) (λh2=>?_)
   ·have h2:i<b.length:=by have h2:(i:Int)<(b.length:Int):=bc h2;omega
    refine rt ae (hp:=aR) (ai ?_);have e0:IntKind.wrap .u64 (IntKind.wrap .u64 (IntKind.wrap .u64 (a.getD (i:Int).toNat 0)-c)-IntKind.wrap .u64 (b.getD (i:Int).toNat 0))=(a.getD i 0-b.getD i 0-c)%18446744073709551616:=by rw[bw,rK,rK,rK,rK];omega
    generalize hd:(a.getD i 0-b.getD i 0-c)%18446744073709551616=d at e0;refine dv (st':=⟨[(0,cS aE a),(1,cS aE b),(5,.c (.X 1002000)),(7,cI i),(8,cU d),(13,cI M),(14,cI i)],[(1002000,.vec 23 aE o)],20,[]⟩) (wk ⟨sR ae,sR ae,sR ae,sR ae,sE ae ?_,sR ae,sR ae,ah⟩ ⟨bR ae,ah⟩) ?_
    ·exact az (λz=>AV.c (C.I .u64 z)) e0
    refine rr ae (hp:=aR) (rt ae (hp:=aR) (a7 (ai (rt ae (a8 (i+1,o.set i ((4294967296+a.getD i 0-b.getD i 0-c)%4294967296),1-(4294967296+a.getD i 0-b.getD i 0-c)/4294967296) hn FQ (wk ⟨sR ae,sR ae,sR ae,sE ae ?_,sR ae,sR ae,ah⟩ ⟨bE ae ?_,ah⟩))))))
    ·refine az (λz=>AV.c (C.I .u64 z)) ?_;show d.fdiv (2^(min ((63:Nat):Int).toNat (IntKind.bits .u64)))=1-(4294967296+a.getD i 0-b.getD i 0-c)/4294967296;rw[Ab d 63 af];omega
    ·refine az (aJ.vec 23 aE) ?_;show o.set (i:Int).toNat (IntKind.wrap .u32 d)=o.set i ((4294967296+a.getD i 0-b.getD i 0-c)%4294967296);rw[bw,yj];exact az (o.set i) af
   ·have h2:¬i<b.length:=by have h2:¬(i:Int)<(b.length:Int):=bC h2;omega
    have et:b.getD i 0=0:=VF;refine aC (ai ?_);have e0:IntKind.wrap .u64 (IntKind.wrap .u64 (a.getD (i:Int).toNat 0)-c)=(a.getD i 0-b.getD i 0-c)%18446744073709551616:=by rw[bw,rK,rK];omega
    generalize hd:(a.getD i 0-b.getD i 0-c)%18446744073709551616=d at e0;refine dv (st':=⟨[(0,cS aE a),(1,cS aE b),(5,.c (.X 1002000)),(7,cI i),(8,cU d),(13,cI M),(14,cI i)],[(1002000,.vec 23 aE o)],20,[]⟩) (wk ⟨sR ae,sR ae,sR ae,sR ae,sE ae ?_,sR ae,sR ae,ah⟩ ⟨bR ae,ah⟩) ?_
    ·exact az (λz=>AV.c (C.I .u64 z)) e0
    refine rr ae (hp:=aR) (rt ae (hp:=aR) (a7 (ai (rt ae (a8 (i+1,o.set i ((4294967296+a.getD i 0-b.getD i 0-c)%4294967296),1-(4294967296+a.getD i 0-b.getD i 0-c)/4294967296) hn FQ (wk ⟨sR ae,sR ae,sR ae,sE ae ?_,sR ae,sR ae,ah⟩ ⟨bE ae ?_,ah⟩))))))
    ·refine az (λz=>AV.c (C.I .u64 z)) ?_;show d.fdiv (2^(min ((63:Nat):Int).toNat (IntKind.bits .u64)))=1-(4294967296+a.getD i 0-b.getD i 0-c)/4294967296;rw[Ab d 63 af];omega
    ·refine az (aJ.vec 23 aE) ?_;show o.set (i:Int).toNat (IntKind.wrap .u32 d)=o.set i ((4294967296+a.getD i 0-b.getD i 0-c)%4294967296);rw[bw,yj];exact az (o.set i) af
  ·have h:¬i<M:=by have h:¬(i:Int)<(M:Int):=bC h;omega
   have hi:i=M:=af;subst hi;refine bp (bu (br (bq (ai (fS 1002000 ae ae ae (rb ?_))))));refine rc ae ae (wL _) (re ae (aF (aL ar ae (au.of_eq ?_))));have hr:bT o:=hI.r;have hv:val o-c*4294967296^i=val (a.take i)-val (b.take i):=hI.v;rw[np a i af,np b i af]at hv;have hc:c=0:=by
    have h1:=nR hr;rw[hlen]at h1;have h2:=jR i;rcases(show c=0∨c=1 by omega)with e|e
    ·exact e
    ·subst e;omega
   subst hc;rw[pX hr,←hv];simp
def Rf(m k:Nat)(h:k≤m)(hm:(ay m).length≤1099511627776):aG Tryz.prog 173 [cS aE (ay m),cS aE (ay k)] (cS aE (ay (m-k))):=by have:=ai9 (ay m) (ay k) (eH m) (eH k) (sU h) (by rw[eT,eT];omega) hm;rw[eT,eT,show((m:Int)-(k:Int)).toNat=m-k by omega]at this;exact this
def YH(na nb:Bool)(m k:Nat)(hm:(ay m).length≤1099511627776)(hk:(ay k).length≤1099511627776):aG Tryz.prog 103 [.a [.B na,.S aE (ay m)],.a [.B nb,.S aE (ay k)]] (aZ (sg na m+sg nb k)):=by
 refine aX Tryz.func103 ae ae ae ae ae ak ?_;refine rr ae (aj (rr ae ?_));refine ax ae (λh=>?_) (λh=>?_)
 ·have h:na=nb:=eq_of_beq h;subst h;refine rb (rc ae ae (YB _ _ hm hk) (rc ae ae (pq _ _) (re ae (aF (bW (aL ar ae (au.of_eq ?_)))))));have e2:sg na (m+k)=sg na m+sg na k:=by unfold sg;split<;>omega
  exact az aZ e2
 ·have h:na≠nb:=λe=>by subst e;simp at h
  refine aC (ai (aj (rb (rc ae ae (Eo _ _) (re ae ?_)))));refine ax ae (λh2=>?_) (λh2=>?_)
  ·have h2:k≤m:=by have h2:dn (m:Int) (k:Int)≥0:=bc h2;unfold dn at h2;split at h2<;>omega
   refine rb (rc ae ae (Rf _ _ h2 hm) (rc ae ae (pq _ _) (re ae (aF (bW (aL ar ae (au.of_eq ?_)))))));have e2:sg na (m-k)=sg na m+sg nb k:=by unfold sg;cases na<;>cases nb<;>simp at h⊢<;>omega
   exact az aZ e2
  ·have h2:m≤k:=by
    have h2:¬dn (m:Int) (k:Int)≥0:=bC h2;unfold dn at h2;split at h2
    ·omega
    ·split at h2<;>omega
   refine aC (ai (rb (rc ae ae (Rf _ _ h2 hk) (rc ae ae (pq _ _) (re ae (aF (aL ar ae (au.of_eq ?_))))))));have e2:sg nb (k-m)=sg na m+sg nb k:=by unfold sg;cases na<;>cases nb<;>simp at h⊢<;>omega
   exact az aZ e2
def Ad(a b:Int)(ha:Sm a)(hb:Sm b):aG Tryz.prog 103 [aZ a,aZ b] (aZ (a+b)):=by have h:=YH (bN a) (bN b) a.natAbs b.natAbs ha hb;rw[vb,vb]at h;exact h
def Rg(a b:Int)(ha:Sm a)(hb:Sm b):aG Tryz.prog 163 [aZ a,aZ b] (aZ (a-b)):=by
 refine aX Tryz.func163 ae ae ae ae ae ak ?_;have h:=YH (bN a) (!bN b) a.natAbs b.natAbs ha hb;have e:sg (bN a) a.natAbs+sg (!bN b) b.natAbs=a-b:=by rw[vb];unfold sg bN;by_cases h:b<0<;>simp[h]<;>omega
 rw[e]at h;exact rr ae (rb (rc ae ae h (re ae (aF (aL ar ae (au.refl _))))))
def Li(a b:Int):aG Tryz.prog 149 [aZ a,aZ b] (cI (dn a b)):=by
 refine aX Tryz.func149 ae ae ae ae ae ak ?_;refine rr ae (rb (rc ae ae (z9 a) (rc ae ae (z9 b) (re ae ?_))));refine aj (rr ae (ax ae (λh=>?_) (λh=>?_)))
 ·have h:=qA h;refine aj (rr ae (ax ae (λh2=>?_) (λh2=>?_)))
  ·have h2:cH a<cH b:=bc h2;refine rr ae (aF (bW (bW (aL ar ae (au.of_eq (az (λz=>AV.c (C.I .i64 z)) ?_))))));unfold cH at h2;unfold dn;rw[aw];split at h2<;>split at h2<;>(try split at h2)<;>(try split at h2)<;>omega
  ·have h2:¬cH a<cH b:=bC h2;refine aC (ai (rr ae (aF (bW (aL ar ae (au.of_eq (az (λz=>AV.c (C.I .i64 z)) ?_)))))));unfold cH at h h2;unfold dn;have:b<a:=by split at h<;>split at h<;>(try split at h)<;>(try split at h)<;>simp_all<;>omega
   rw[aq af,aw this]
 ·have h:=qC h;refine aC (ai (aj (rr ae (ax ae (λh2=>?_) (λh2=>?_)))))
  ·have h2:cH a<0:=bc h2;refine rb (rc ae ae (Eo _ _) (re ae (aF (bW (aL ar ae (au.of_eq (az (λz=>AV.c (C.I .i64 z)) ?_)))))));have e1:a<0:=by unfold cH at h2;split at h2<;>(try split at h2)<;>omega
   have e2:b<0:=by rw[h]at h2;unfold cH at h2;split at h2<;>(try split at h2)<;>omega
   unfold dn;split<;>split<;>(try split)<;>omega
  ·have h2:¬cH a<0:=bC h2;refine aC (ai (rb (rc ae ae (Eo _ _) (re ae (aF (aL ar ae (au.of_eq (az (λz=>AV.c (C.I .i64 z)) ?_))))))));have e1:0≤a:=by unfold cH at h2;split at h2<;>(try split at h2)<;>omega
   have e2:0≤b:=by rw[h]at h2;unfold cH at h2;split at h2<;>(try split at h2)<;>omega
   unfold dn;split<;>split<;>(try split)<;>omega
def kN{x y:Int}(h:(x==y)=false):x≠y:=cd
set_option maxHeartbeats 8000000 in
def ai'(U v:List Int)(j n:Nat)(hU:bT U)(hv:bT v)(hn:v.length=n+2)(hj:j+n+3≤U.length)(hl:U.length≤1099511627777)(yf:2147483648≤v.getD (n+1) 0)(bh:val ((U.drop j).take (n+3))<val v*4294967296):
  mZ Tryz.prog 276 [.c (.W 0 j (n+3)),cS aE v] 23 aE U (cW (val ((U.drop j).take (n+3))/val v)) (cV U j (bY (n+3) (val ((U.drop j).take (n+3))%val v))):=by
 refine qt Tryz.func276 ae ae ae ae ae ak ?_
 have K:=Yk hU hv hn hj yf bh
 have g1:=cZ hU (j+(n+2))
 have g2:=cZ hU (j+(n+1))
 have g3:=cZ hU (j+n)
 have k1:=cZ hv (n+1)
 have k2:=cZ hv n
 have ku:=K.ku
 have Rh:=K.Du
 have a1:((v.length:Int)).toNat=n+2:=af
 have a2:((v.length:Int)-1).toNat=n+1:=af
 have a3:((v.length:Int)-2).toNat=n:=af
 generalize hQ:sV 2 ((U.getD (j+(n+2)) 0*4294967296+U.getD (j+(n+1)) 0)/v.getD (n+1) 0) ((U.getD (j+(n+2)) 0*4294967296+U.getD (j+(n+1)) 0)%v.getD (n+1) 0) (v.getD (n+1) 0) (v.getD n 0) (U.getD (j+n) 0)=Q0
 refine rr ae (rr ae (rr ae (hp:=aR) ?_))
 rw[a1,a2]
 have e6:IntKind.wrap .u64 ((BitVec.ofInt (IntKind.bits .u64) (IntKind.wrap .u64 (IntKind.wrap .u64 (U.getD (j+(n+2)) 0)*2^(min ((32:Nat):Int).toNat (IntKind.bits .u64))))|||BitVec.ofInt (IntKind.bits .u64) (IntKind.wrap .u64 (U.getD (j+(n+1)) 0))).toNat:Int)=U.getD (j+(n+2)) 0*4294967296+U.getD (j+(n+1)) 0:=by rw[wrap_u64 (U.getD (j+(n+2)) 0) af af,wrap_u64 (U.getD (j+(n+1)) 0) af af,Aa _ 32 af af af,BT _ _ 32 af (F8 _ _) af af af,show(2:Int)^32=4294967296 from ae]
 have QN:IntKind.wrap .u64 (v.getD (n+1) 0)=v.getD (n+1) 0:=wrap_u64 _ af af
 have QO:IntKind.wrap .u64 (v.getD n 0)=v.getD n 0:=wrap_u64 _ af af
 have QP:IntKind.wrap .u64 (U.getD (j+n) 0)=U.getD (j+n) 0:=wrap_u64 _ af af
 have nY:0≤U.getD (j+(n+2)) 0*4294967296+U.getD (j+(n+1)) 0:=af
 have Ei:U.getD (j+(n+2)) 0*4294967296+U.getD (j+(n+1)) 0<18446744073709551616:=af
 have ve:=@Kn1.small _ _ _ _ _ _ _ _ _ K
 have aV:=@K4 _ _ _ _ _ _ _ _ _ K
 have z5:=K.first
 have nA:=K.q0
 refine dv (st':=⟨[(0,.c (.W 0 j (n+3))),(1,cS aE v),(5,cI v.length),(6,cU (U.getD (j+(n+2)) 0*4294967296+U.getD (j+(n+1)) 0))],[(0,.vec 23 aE U)],4,[]⟩) (wk ⟨sR ae,sR ae,sR ae,sE ae ?_,ah⟩ ⟨bR ae,ah⟩) ?_
 ·exact az (λz=>AV.c (C.I .u64 z)) e6
 generalize U.getD (j+(n+2)) 0*4294967296+U.getD (j+(n+1)) 0=t at*
 generalize Hk:v.getD (n+1) 0=v1 at*
 generalize QQ:v.getD n 0=v2 at*
 generalize QR:U.getD (j+n) 0=u2 at*
 generalize mT:val ((U.drop j).take (n+3))=u at*
 have x1:IntKind.wrap .u64 (v.getD ((v.length:Int)-1).toNat 0)=v1:=by rw[a2,Hk];exact QN
 have x2:IntKind.wrap .u64 (v.getD ((v.length:Int)-2).toNat 0)=v2:=by rw[a3,QQ];exact QO
 have x3:IntKind.wrap .u64 (U.getD (j+((v.length:Int)-2).toNat) 0)=u2:=by rw[a3,QR];exact QP
 have vd:0≤t/v1:=xB nY af
 have uY:0≤t%v1:=gT _ af
 have nU:t%v1<v1:=il _ af
 have aT:=oU t v1
 have jk:((-9223372036854775808≤(v.length:Int)-1∧(v.length:Int)-1≤9223372036854775807)∧0≤(v.length:Int)-1∧(v.length:Int)-1<(v.length:Int))∧IntKind.wrap .u64 (v.getD ((v.length:Int)-1).toNat 0)≠0:=by rw[x1];omega
 have YI:=aV 2 (t/v1) (t%v1) (by rw[fc];omega) uY af (by show(4294967296:Int)≤t%v1+(2:Nat)*2147483648;omega) z5
 rw[hQ]at YI
 obtain⟨q1,q2,q3⟩:=YI
 refine rr ae (hp:=by simp only[Pr.an,Pr.h,num,aA,true_and,and_true];exact⟨⟨⟨jk,jk.1.1⟩,jk.1.2⟩,jk.2⟩) ?_
 refine wO ⟨[(0,.c (.W 0 j (n+3))),(1,cS aE v),(5,cI v.length),(7,cU Q0)],[(0,.vec 23 aE U)],30,[]⟩ ?_ (λic=>aK (bA (α:=Nat×Int×Int) (λx=>⟨[(0,.c (.W 0 j (n+3))),(1,cS aE v),(5,cI v.length),(6,cU t),(7,cU x.2.1),(8,cU x.2.2)],[(0,.vec 23 aE U)],6,[]⟩) (λx=>sV x.1 x.2.1 x.2.2 v1 v2 u2=Q0∧t=x.2.1*v1+x.2.2∧0≤x.2.2∧x.2.2<4294967296∧4294967296≤x.2.2+x.1*2147483648∧u/val v≤x.2.1) (λx=>x.1) (2,t/v1,t%v1) ⟨hQ,by show t=t/v1*v1+t%v1;rw[fc];omega,uY,by show t%v1<4294967296;omega,by show(4294967296:Int)≤t%v1+(2:Nat)*2147483648;omega,z5⟩ (wk ⟨sR ae,sR ae,sR ae,sR ae,sE ae ?_,sE ae ?_,ah⟩ ⟨bR ae,ah⟩) ?_))
 ·clear aV ve hQ;refine rr ae (aj (rr ae ?_));refine aK (bA (α:=Nat×Int×Int) (λx=>⟨[(0,.c (.W 0 j (n+3))),(1,cS aE v),(5,cI v.length),(7,cU Q0),(9,cU x.2.1),(10,cU x.2.2),(82,cI v.length),(83,cI x.1)],[(0,.vec 23 aE (cV U j (bY x.1 (val ((U.drop j).take x.1)-Q0*val (v.take x.1)))))],32,[]⟩) (λx=>x.1≤n+2∧(val ((U.drop j).take x.1)-Q0*val (v.take x.1))/4294967296^x.1= -(x.2.1+x.2.2)∧x.2.1=Q0*val (v.take x.1)/4294967296^x.1∧(x.2.2=0∨x.2.2=1)) (λx=>n+2-x.1) (0,0,0) ⟨bK _,by simp[val],by simp[val],.inl ae⟩ (wk ⟨sR ae,sR ae,sR ae,sR ae,sR ae,sR ae,sR ae,sR ae,ah⟩ ⟨bE ae ?_,ah⟩) ?_)
  ·exact az (aJ.vec 23 aE) (K7 U j).symm
  rintro⟨i,c,b⟩ ⟨h1,h2,h3,h4⟩;simp only at h1 h2 h3 h4;have hc:=Yi hv (show 0≤Q0 by omega) q3 i;rw[←h3]at hc;have gu:=cZ hU (j+i);have dc:=Yg U v j i Q0 (c:=c) (b:=b) ae h2;have hlen:(bY i (val ((U.drop j).take i)-Q0*val (v.take i))).length=i:=tV _ _;have mU:=ye (U:=U) (j:=j) (ws:=bY i (val ((U.drop j).take i)-Q0*val (v.take i))) af;have rH:=K8 (U:=U) (j:=j) (ws:=bY i (val ((U.drop j).take i)-Q0*val (v.take i))) af;have kX:=λw=>K9 (U:=U) (j:=j) (ws:=bY i (val ((U.drop j).take i)-Q0*val (v.take i))) w af
  rw[hlen]at rH kX;simp only at dc;obtain⟨s1,s2⟩:=dc;refine rr ae (aj ?_);refine ax ae (λh=>?_) (λh=>?_)
  ·have h:i<n+2:=by have h:(i:Int)<(v.length:Int):=bc h;omega
   have gv:=cZ hv i;have hm:0≤Q0*v.getD i 0∧Q0*v.getD i 0≤18446744065119617025:=Hg af af gv.1 af;have sW:=Yj (v:=v) (q:=Q0) i h3;refine aC (ai (aj (aK (rr ae (rr ae (hp:=aR) ?_)))));have ei:(i:Int).toNat=i:=bw i;have w1:IntKind.wrap .u64 (IntKind.wrap .u64 (Q0*IntKind.wrap .u64 (v.getD (i:Int).toNat 0))+c)=Q0*v.getD i 0+c:=by rw[ei,wrap_u64 (v.getD i 0) af af,wrap_u64 (Q0*v.getD i 0) af af,wrap_u64 _ af af]
   generalize hp:Q0*v.getD i 0+c=p at*;have cK:0≤p∧p<18446744073709551616:=af;refine dv (st':=⟨[(0,.c (.W 0 j (n+3))),(1,cS aE v),(5,cI v.length),(7,cU Q0),(10,cU b),(11,cI i),(12,cU p),(82,cI v.length),(83,cI i)],[(0,.vec 23 aE (cV U j (bY i (val ((U.drop j).take i)-Q0*val (v.take i)))))],40,[]⟩) (wk ⟨sR ae,sR ae,sR ae,sR ae,sR ae,sR ae,sE ae ?_,sR ae,sR ae,ah⟩ ⟨bR ae,ah⟩) ?_
   ·exact az (λz=>AV.c (C.I .u64 z)) w1
   generalize hX:cV U j (bY i (val ((U.drop j).take i)-Q0*val (v.take i)))=X at*;refine rr ae (rr ae (hp:=aR) ?_);have w2:p.fdiv (2^(min ((32:Nat):Int).toNat (IntKind.bits .u64)))=p/4294967296:=Ab p 32 af;have w3:IntKind.wrap .u64 (IntKind.wrap .u64 (IntKind.wrap .u64 (X.getD (j+(i:Int).toNat) 0)-IntKind.wrap .u64 (IntKind.wrap .u32 p))-b)=(U.getD (j+i) 0-p%4294967296-b)%18446744073709551616:=by rw[ei,rH,rK,rK,rK,rK,yj];omega
   generalize hd:(U.getD (j+i) 0-p%4294967296-b)%18446744073709551616=d at*;refine dv (st':=⟨[(0,.c (.W 0 j (n+3))),(1,cS aE v),(5,cI v.length),(7,cU Q0),(9,cU (p/4294967296)),(11,cI i),(13,cU d),(82,cI v.length),(83,cI i)],[(0,.vec 23 aE X)],44,[]⟩) (wk ⟨sR ae,sR ae,sR ae,sR ae,sE ae ?_,sR ae,sE ae ?_,sR ae,sR ae,ah⟩ ⟨bR ae,ah⟩) ?_
   ·exact az (λz=>AV.c (C.I .u64 z)) w2
   ·exact az (λz=>AV.c (C.I .u64 z)) w3
   refine rr ae (hp:=aR) (rt ae (hp:=aR) (a7 (ai (rt ae (a8 (i+1,p/4294967296,1-(4294967296+U.getD (j+i) 0-p%4294967296-b)/4294967296) ⟨by show i+1≤n+2;omega,s2,sW.symm,by show 1-(4294967296+U.getD (j+i) 0-p%4294967296-b)/4294967296=0∨1-(4294967296+U.getD (j+i) 0-p%4294967296-b)/4294967296=1;omega⟩ (by show n+2-(i+1)<n+2-i;omega) (wk ⟨sR ae,sR ae,sR ae,sR ae,sR ae,sE ae ?_,sR ae,sR ae,ah⟩ ⟨bE ae ?_,ah⟩))))))
   ·refine az (λz=>AV.c (C.I .u64 z)) ?_;show d.fdiv (2^(min ((63:Nat):Int).toNat (IntKind.bits .u64)))=1-(4294967296+U.getD (j+i) 0-p%4294967296-b)/4294967296;rw[Ab d 63 af];omega
   ·refine az (aJ.vec 23 aE) ?_;show X.set (j+(i:Int).toNat) (IntKind.wrap .u32 d)=cV U j (bY (i+1) _);rw[s1,ei,yj,show d%4294967296=(4294967296+U.getD (j+i) 0-p%4294967296-b)%4294967296 by omega,kX]
  ·have e:i=n+2:=by have h:¬(i:Int)<(v.length:Int):=bC h;omega
   subst e;have oG:v.getD (n+2) 0=0:=by simp[aY,ni (show v.length≤n+2 by omega)]
   rw[oG,eo,A7,iU hc.1 hc.2,F1 hc.1 hc.2,A7,np v (n+2+1) af,mT]at s2;rw[oG,eo,A7,iU hc.1 hc.2,np v (n+2+1) af,mT]at s1;generalize hX:cV U j (bY (n+2) (val ((U.drop j).take (n+2))-Q0*val (v.take (n+2))))=X at*;refine bp (bu (br (bq (ai (rr ae (hp:=aR) ?_)))));have w3:IntKind.wrap .u64 (IntKind.wrap .u64 (IntKind.wrap .u64 (X.getD (j+(v.length:Int).toNat) 0)-c)-b)=(U.getD (j+(n+2)) 0-c-b)%18446744073709551616:=by rw[a1,rH,rK,rK,rK];omega
   generalize hd:(U.getD (j+(n+2)) 0-c-b)%18446744073709551616=d at*;refine dv (st':=⟨[(0,.c (.W 0 j (n+3))),(1,cS aE v),(5,cI v.length),(7,cU Q0),(14,cU d)],[(0,.vec 23 aE X)],44,[]⟩) (wk ⟨sR ae,sR ae,sR ae,sR ae,sE ae ?_,ah⟩ ⟨bR ae,ah⟩) ?_
   ·exact az (λz=>AV.c (C.I .u64 z)) w3
   refine rr ae (hp:=aR) (aj (rr ae (hp:=aR) ?_));have Ri:X.set (j+(v.length:Int).toNat) (IntKind.wrap .u32 d)=cV U j (bY (n+3) (u-Q0*val v)):=by rw[a1,show n+3=n+2+1 from ae,s1,yj,show d%4294967296=(4294967296+U.getD (j+(n+2)) 0-c-b)%4294967296 by omega,kX]
   have tW:d.fdiv (2^(min ((63:Nat):Int).toNat (IntKind.bits .u64)))=1-(4294967296+U.getD (j+(n+2)) 0-c-b)/4294967296:=by rw[Ab d 63 af];omega
   generalize qo:1-(4294967296+U.getD (j+(n+2)) 0-c-b)/4294967296=b' at*;have asm:b'=0∨b'=1:=af;have qv:=oU u (val v);have jq:=gT u (show val v≠0 by omega);have qi:=il u Rh;have Yq:=jR (n+2+1);have h5:=oU (u-Q0*val v) (4294967296^(n+2+1));have h6:=gT (u-Q0*val v) (show(4294967296:Int)^(n+2+1)≠0 by omega);have h7:=il (u-Q0*val v) Yq;rw[s2]at h5;refine ax ae (λh8=>?_) (λh8=>?_)
   ·have h8:b'=0:=by have h8:d.fdiv (2^(min ((63:Nat):Int).toNat (IntKind.bits .u64)))=0:=eq_of_beq h8;rw[←tW];exact h8
    have hq:Q0=u/val v:=by
     rw[h8]at h5;simp only[Int.neg_zero,eo,nl]at h5;by_cases e:Q0=u/val v
     ·exact e
     ·exfalso;have e2:Q0=u/val v+1:=af;have Q9:Q0*val v=val v*(u/val v)+val v:=by rw[e2,lF,iY,fc]
      omega
    have e1:u-Q0*val v=u%val v:=by have:=fc (u/val v) (val v);rw[hq];omega
    refine rr ae (aF ?_);repeat(first|refine bW ?_|refine fC ?_|refine ix ?_)
    refine PW (st':=⟨[(4,cW (u/val v))],[(0,.vec 23 aE (cV U j (bY (n+3) (u%val v))))],60,[]⟩) (wk ⟨sE ae ?_,ah⟩ ⟨bE ae ?_,ah⟩) (tT ar ae (au.refl _) ae)
    ·refine az (λz=>AV.c (C.I .u32 z)) ?_;rw[wrap_u32 _ af af];exact hq
    ·rw[Ri,e1]
   ·have h8:b'=1:=by have h8:¬d.fdiv (2^(min ((63:Nat):Int).toNat (IntKind.bits .u64)))=0:=kN h8;rw[tW]at h8;omega
    have hq:Q0=u/val v+1:=by
     rw[h8]at h5;rw[Int.mul_neg,nm]at h5;by_cases e:Q0=u/val v
     ·exfalso;have:Q0*val v=val v*(u/val v):=by rw[e,fc]
      omega
     ·omega
    have Q9:Q0*val v=val v*(u/val v)+val v:=by rw[hq,lF,iY,fc]
    refine aC (ai ?_);refine dv (st':=⟨[(0,.c (.W 0 j (n+3))),(1,cS aE v),(5,cI v.length),(7,cU Q0)],[(0,.vec 23 aE (cV U j (bY (n+3) (u-Q0*val v))))],50,[]⟩) (wk ⟨sR ae,sR ae,sR ae,sR ae,ah⟩ ⟨bE ae ?_,ah⟩) ?_
    ·rw[Ri]
    have po:∀x,(bY (n+3) x).length=n+3:=λx=>tV _ _
    have Lj:bT (cV U j (bY (n+3) (u-Q0*val v))):=QV hU (Hl _ _);have asn:(cV U j (bY (n+3) (u-Q0*val v))).length=U.length:=ye vY;have aja:cV (cV U j (bY (n+3) (u-Q0*val v))) j (bY (n+3) (val (((cV U j (bY (n+3) (u-Q0*val v))).drop j).take (n+3))+val v))=cV U j (bY (n+3) (u%val v)):=by rw[Yr vY (by rw[po,po]),QW vY,AS vY,lD vY,Hm];refine az (cV U j) (K6 _ _ _ ?_);rw[Int.emod_add_emod];congr 1;omega
    generalize cV U j (bY (n+3) (u-Q0*val v))=U1 at*;clear Ri tW qo s1 s2 kX rH hX;refine rr ae (aj (rr ae ?_));refine aK (bA (α:=Nat×Int) (λx=>⟨[(0,.c (.W 0 j (n+3))),(1,cS aE v),(5,cI v.length),(7,cU Q0),(9,cU x.2),(135,cI v.length),(136,cI x.1)],[(0,.vec 23 aE (cV U1 j (bY x.1 (val ((U1.drop j).take x.1)+val (v.take x.1)))))],60,[]⟩) (λx=>x.1≤n+2∧(val ((U1.drop j).take x.1)+val (v.take x.1))/4294967296^x.1=x.2∧(x.2=0∨x.2=1)) (λx=>n+2-x.1) (0,0) ⟨bK _,by simp[val],.inl ae⟩ (wk ⟨sR ae,sR ae,sR ae,sR ae,sR ae,sR ae,sR ae,ah⟩ ⟨bE ae ?_,ah⟩) ?_)
    ·exact az (aJ.vec 23 aE) (K7 U1 j).symm
    rintro⟨i,c⟩ ⟨h1,h2,h4⟩;simp only at h1 h2 h4;have gu:=cZ Lj (j+i);have dc:=Yh U1 v j i (c:=c) ae h2;simp only at dc;obtain⟨s1,s2⟩:=dc;have hlen:(bY i (val ((U1.drop j).take i)+val (v.take i))).length=i:=tV _ _;have mU:=ye (U:=U1) (j:=j) (ws:=bY i (val ((U1.drop j).take i)+val (v.take i))) af;have rH:=K8 (U:=U1) (j:=j) (ws:=bY i (val ((U1.drop j).take i)+val (v.take i))) af;have kX:=λw=>K9 (U:=U1) (j:=j) (ws:=bY i (val ((U1.drop j).take i)+val (v.take i))) w af
    rw[hlen]at rH kX;refine rr ae (aj ?_);refine ax ae (λh=>?_) (λh=>?_)
    ·have h:i<n+2:=by have h:(i:Int)<(v.length:Int):=bc h;omega
     have gv:=cZ hv i;generalize hX:cV U1 j (bY i (val ((U1.drop j).take i)+val (v.take i)))=X at*;have ei:(i:Int).toNat=i:=bw i;refine aC (ai (aj (aK (rr ae (rr ae (hp:=aR) ?_)))));have w1:IntKind.wrap .u64 (IntKind.wrap .u64 (IntKind.wrap .u64 (X.getD (j+(i:Int).toNat) 0)+IntKind.wrap .u64 (v.getD (i:Int).toNat 0))+c)=U1.getD (j+i) 0+v.getD i 0+c:=by rw[ei,rH,wrap_u64 (U1.getD (j+i) 0) af af,wrap_u64 (v.getD i 0) af af,wrap_u64 (_+v.getD i 0) af af,wrap_u64 _ af af]
     generalize ht:U1.getD (j+i) 0+v.getD i 0+c=s at*;have nY:0≤s∧s<8589934592:=af;refine dv (st':=⟨[(0,.c (.W 0 j (n+3))),(1,cS aE v),(5,cI v.length),(7,cU Q0),(15,cI i),(16,cU s),(135,cI v.length),(136,cI i)],[(0,.vec 23 aE X)],70,[]⟩) (wk ⟨sR ae,sR ae,sR ae,sR ae,sR ae,sE ae ?_,sR ae,sR ae,ah⟩ ⟨bR ae,ah⟩) ?_
     ·exact az (λz=>AV.c (C.I .u64 z)) w1
     refine rr ae (hp:=aR) (rt ae (hp:=aR) (a7 (ai (rt ae (a8 (i+1,s/4294967296) ⟨by show i+1≤n+2;omega,s2,by show s/4294967296=0∨s/4294967296=1;omega⟩ (by show n+2-(i+1)<n+2-i;omega) (wk ⟨sR ae,sR ae,sR ae,sR ae,sE ae ?_,sR ae,sR ae,ah⟩ ⟨bE ae ?_,ah⟩))))))
     ·exact az (λz=>AV.c (C.I .u64 z)) (Ab s 32 af)
     ·refine az (aJ.vec 23 aE) ?_;show X.set (j+(i:Int).toNat) (IntKind.wrap .u32 s)=cV U1 j (bY (i+1) _);rw[s1,ei,yj,kX]
    ·have e:i=n+2:=by have h:¬(i:Int)<(v.length:Int):=bC h;omega
     subst e;rw[oG,nl,np v (n+2+1) af]at s1;generalize hX:cV U1 j (bY (n+2) (val ((U1.drop j).take (n+2))+val (v.take (n+2))))=X at*;refine bp (bu (br (bq (ai (rr ae (hp:=aR) (rr ae (aF ?_)))))));refine PW (st':=⟨[(4,cW (u/val v))],[(0,.vec 23 aE (cV U j (bY (n+3) (u%val v))))],90,[]⟩) (wk ⟨sE ae ?_,ah⟩ ⟨bE ae ?_,ah⟩) (tT ar ae (au.refl _) ae)
     ·refine az (λz=>AV.c (C.I .u32 z)) ?_;rw[rK,yj];omega
     ·refine az (aJ.vec 23 aE) ?_;rw[←aja,show n+3=n+2+1 from ae,s1,a1,rH,yj,yj,show(U1.getD (j+(n+2)) 0+c%4294967296)%4294967296=(U1.getD (j+(n+2)) 0+c)%4294967296 by omega,kX]
 ·refine az (λz=>AV.c (C.I .u64 z)) ?_;show IntKind.wrap .u64 (t.tdiv (IntKind.wrap .u64 (v.getD ((v.length:Int)-1).toNat 0)))=t/v1;have:=Int.ediv_le_self v1 nY;rw[x1,Eh nY,wrap_u64 _ vd af]
 ·refine az (λz=>AV.c (C.I .u64 z)) ?_;show(t.tmod (IntKind.wrap .u64 (v.getD ((v.length:Int)-1).toNat 0)))=t%v1;rw[x1,Hj nY]
 ·rintro⟨f,q,r⟩ ⟨h1,h2,h3,h4,h5,h6⟩;simp only at h1 h2 h3 h4 h5 h6;have hqs:=ve h2 h3;cases f with
  |zero=>omega
  |succ f=>
  rw[sV]at h1;have qi:0≤q*v2∧q*v2<18446744073709551616:=by refine⟨j4 af af,?_⟩;have:q*v2≤4294967297*4294967295:=A4 af af af ak;omega
  refine aj (rb (rg 50 ae ae (λh=>?_) (λh=>?_)))
  ·have wM:q≥4294967296:=by simpa using h
   have hc:q≥4294967296∨q*v2>r*4294967296+u2:= .inl wM;refine re ae (ax ae (λ_=>?_) (λh7=>by cases h7));have bh:u/val v<q:=by
    rcases hc with hc|hc
    ·have:=K.Dv;omega
    ·exact K.down h2 af hc
   have w1:IntKind.wrap .u64 (q-1)=q-1:=wrap_u64 _ af af;have w2:IntKind.wrap .u64 (r+IntKind.wrap .u64 (v.getD ((v.length:Int)-1).toNat 0))=r+v1:=by rw[x1,wrap_u64 _ af af]
   refine aC (ai (aK (rr ae (rr ae (hp:=aR) (rr ae (ax ae (λh7=>?_) (λh7=>?_)))))))
   ·have h7:r+v1≥4294967296:=by have h7:IntKind.wrap .u64 (r+IntKind.wrap .u64 (v.getD ((v.length:Int)-1).toNat 0))≥4294967296:=bc h7;omega
    rw[aw hc,aw h7]at h1;refine bp (GN (br (bq (my ic (wk ⟨sR ae,sR ae,sR ae,sE ae ?_,ah⟩ ⟨bR ae,ah⟩)))));refine az (λz=>AV.c (C.I .u64 z)) ?_;rw[←h1];exact w1
   ·have h7:¬r+v1≥4294967296:=by have h7:¬IntKind.wrap .u64 (r+IntKind.wrap .u64 (v.getD ((v.length:Int)-1).toNat 0))≥4294967296:=bC h7;omega
    rw[aw hc,aq h7]at h1;refine aC (a7 (a8 (f,q-1,r+v1) ⟨h1,by show t=(q-1)*v1+(r+v1);rw[xK,iY];omega,by show 0≤r+v1;omega,by show r+v1<4294967296;omega,by show(4294967296:Int)≤r+v1+(f:Nat)*2147483648;omega,by show u/val v≤q-1;omega⟩ (fN f) (wk ⟨sR ae,sR ae,sR ae,sR ae,sE ae ?_,sE ae ?_,ah⟩ ⟨bR ae,ah⟩)))
    ·exact az (λz=>AV.c (C.I .u64 z)) w1
    ·exact az (λz=>AV.c (C.I .u64 z)) w2
  ·have wM:¬q≥4294967296:=by have:q<4294967296:=cd;omega
   have w3:IntKind.wrap .u64 (q*IntKind.wrap .u64 (v.getD ((v.length:Int)-2).toNat 0))=q*v2:=by rw[x2,wrap_u64 _ qi.1 qi.2]
   have w4:IntKind.wrap .u64 ((BitVec.ofInt (IntKind.bits .u64) (IntKind.wrap .u64 (r*2^(min ((32:Nat):Int).toNat (IntKind.bits .u64))))|||BitVec.ofInt (IntKind.bits .u64) (IntKind.wrap .u64 (U.getD (j+((v.length:Int)-2).toNat) 0))).toNat:Int)=r*4294967296+u2:=by rw[x3,Aa r 32 h3 af af,BT _ _ 32 af (F8 _ _) af af af,show(2:Int)^32=4294967296 from ae]
   refine re ae (hp:=aR) (ax ae (λh8=>?_) (λh8=>?_))
   ·have hc:q≥4294967296∨q*v2>r*4294967296+u2:= .inr (by have h8:IntKind.wrap .u64 (q*IntKind.wrap .u64 (v.getD ((v.length:Int)-2).toNat 0))>IntKind.wrap .u64 ((BitVec.ofInt (IntKind.bits .u64) (IntKind.wrap .u64 (r*2^(min ((32:Nat):Int).toNat (IntKind.bits .u64))))|||BitVec.ofInt (IntKind.bits .u64) (IntKind.wrap .u64 (U.getD (j+((v.length:Int)-2).toNat) 0))).toNat:Int):=bc h8;rw[w3,w4]at h8;exact h8);have bh:u/val v<q:=by
     rcases hc with hc|hc
     ·have:=K.Dv;omega
     ·exact K.down h2 af hc
    have w1:IntKind.wrap .u64 (q-1)=q-1:=wrap_u64 _ af af;have w2:IntKind.wrap .u64 (r+IntKind.wrap .u64 (v.getD ((v.length:Int)-1).toNat 0))=r+v1:=by rw[x1,wrap_u64 _ af af]
    refine aC (ai (aK (rr ae (rr ae (hp:=aR) (rr ae (ax ae (λh7=>?_) (λh7=>?_)))))))
    ·have h7:r+v1≥4294967296:=by have h7:IntKind.wrap .u64 (r+IntKind.wrap .u64 (v.getD ((v.length:Int)-1).toNat 0))≥4294967296:=bc h7;omega
     rw[aw hc,aw h7]at h1;refine bp (GN (br (bq (my ic (wk ⟨sR ae,sR ae,sR ae,sE ae ?_,ah⟩ ⟨bR ae,ah⟩)))));refine az (λz=>AV.c (C.I .u64 z)) ?_;rw[←h1];exact w1
    ·have h7:¬r+v1≥4294967296:=by have h7:¬IntKind.wrap .u64 (r+IntKind.wrap .u64 (v.getD ((v.length:Int)-1).toNat 0))≥4294967296:=bC h7;omega
     rw[aw hc,aq h7]at h1;refine aC (a7 (a8 (f,q-1,r+v1) ⟨h1,by show t=(q-1)*v1+(r+v1);rw[xK,iY];omega,by show 0≤r+v1;omega,by show r+v1<4294967296;omega,by show(4294967296:Int)≤r+v1+(f:Nat)*2147483648;omega,by show u/val v≤q-1;omega⟩ (fN f) (wk ⟨sR ae,sR ae,sR ae,sR ae,sE ae ?_,sE ae ?_,ah⟩ ⟨bR ae,ah⟩)))
     ·exact az (λz=>AV.c (C.I .u64 z)) w1
     ·exact az (λz=>AV.c (C.I .u64 z)) w2
   ·have hc:¬(q≥4294967296∨q*v2>r*4294967296+u2):=by have h8:¬IntKind.wrap .u64 (q*IntKind.wrap .u64 (v.getD ((v.length:Int)-2).toNat 0))>IntKind.wrap .u64 ((BitVec.ofInt (IntKind.bits .u64) (IntKind.wrap .u64 (r*2^(min ((32:Nat):Int).toNat (IntKind.bits .u64))))|||BitVec.ofInt (IntKind.bits .u64) (IntKind.wrap .u64 (U.getD (j+((v.length:Int)-2).toNat) 0))).toNat:Int):=bC h8;rw[w3,w4]at h8;omega
    rw[aq hc]at h1;subst h1;exact bp (bu (br (bq (my ic ck))))
end Go.El
