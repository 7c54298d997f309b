/- Contracts: integers of the reference: division. Own work; no condition. -/
import Derived.Test.YtkkccchkmcjcpaaGreatU4
import Derived.Test.YtkkccchkmcjcpaaGreatU3
import Derived.Test.YtkkccchkmcjcpaaGreatU1
set_option linter.defProp false
set_option linter.unusedVariables false
set_option linter.unusedSimpArgs false
set_option linter.unnecessarySimpa false
namespace Go.El
open Go Go.Proofs
def ajy{k n:Nat}(hn:(az k).length=n+2){b1:Int}(eb:b1=(az k).getD (n+1) 0){d:Nat}(ed:(d:Int)=4294967296/(b1+1)):
  1≤b1∧b1<4294967296∧1≤d∧d<4294967296∧((k*d:Nat):Int)<4294967296^(n+2)∧(az (k*d)).length=n+2∧2147483648≤(az (k*d)).getD (n+1) 0:=by
 have hr:=dd (eK k) (n+1)
 have hc:=u9 k
 have b0:b1≠0:=by
  rcases hc with e|e
  ·rw[e]at hn;simp at hn
  ·rw[hn]at e;rw[eb];exact e
 rw[←eb]at hr
 have hd:=pq 4294967296 (b1+1)
 have ju:=gZ 4294967296 (show b1+1≠0 by omega)
 have hm:=iv 4294967296 (show 0<b1+1 by omega)
 have ht:=ajt (b1:=b1) af hr.2
 rw[←ed]at hd ht
 have d1:(1:Int)≤d:=by
  by_cases e:(1:Int)≤d
  ·exact e
  ·have:(d:Int)=0:=by omega
   rw[this]at ht;simp at ht
 have d2:(d:Int)<4294967296:=by have:2*(d:Int)≤(b1+1)*d:=jI af af;omega
 have hv:=RE hn
 rw[ff,←eb]at hv
 have l1:=nX (jY (eK k) n)
 rw[show((az k).take n).length=n by simp;omega]at l1
 have l0:=mz (jY (eK k) n)
 have qu:=dd (eK k) n
 have hp:=jZ n
 generalize (az k).getD n 0=b2 at*
 generalize val ((az k).take n)=b' at*
 have hM:(4294967296:Int)^(n+1)=4294967296^n*4294967296:=qK n
 have k1:b1*4294967296^(n+1)≤(k:Int):=by have:(b1*4294967296)*4294967296^n≤(b1*4294967296+b2)*4294967296^n:=jI af af;rw[hM,show b1*(4294967296^n*4294967296)=b1*4294967296*4294967296^n by rw[fh (4294967296^n),ke]];omega
 have k2:(k:Int)<(b1+1)*4294967296^(n+1):=by
  have h1:(b1*4294967296+b2+1)*4294967296^n≤(b1*4294967296+4294967296)*4294967296^n:=jI af af;have h2:(b1*4294967296+b2+1)*4294967296^n=(b1*4294967296+b2)*4294967296^n+4294967296^n:=by rw[lK _ 1,ja]
  have h3:(b1*4294967296+4294967296)*4294967296^n=(b1+1)*(4294967296^n*4294967296):=by generalize (4294967296:Int)^n=y;grind
  rw[hM,←h3];omega
 have Y8:=jZ (n+1)
 have kd:((k*d:Nat):Int)<4294967296^(n+2):=by
  rw[gi,qK];have h1:(k:Int)*d<(b1+1)*4294967296^(n+1)*d:=Ko k2 af;have h2:(b1+1)*4294967296^(n+1)*d=4294967296^(n+1)*((b1+1)*d):=by generalize (4294967296:Int)^(n+1)=y;grind
  have h3:4294967296^(n+1)*((b1+1)*d)≤4294967296^(n+1)*4294967296:=jx af af;omega
 have hl:(az (k*d)).length=n+2:=by have h1:(az (k*d)).length≤n+2:=By kd;have h2:=te (m:=k) (k:=k*d) (Gu _ af);omega
 refine⟨by omega,hr.2,by omega,by omega,kd,hl,?_⟩
 have sK:=RE hl
 have l2:=nX (jY (eK (k*d)) n)
 rw[show((az (k*d)).take n).length=n by simp;omega]at l2
 have HA:=dd (eK (k*d)) n
 have hr4:=dd (eK (k*d)) (n+1)
 rw[ff,gi]at sK
 generalize (az (k*d)).getD n 0=c2 at*
 generalize (az (k*d)).getD (n+1) 0=c1 at*
 generalize val ((az (k*d)).take n)=c' at*
 by_cases e:2147483648≤c1
 ·exact e
 ·exfalso;have h1:(c1*4294967296+c2+1)*4294967296^n≤(c1*4294967296+4294967296)*4294967296^n:=jI af af;have h2:(c1*4294967296+c2+1)*4294967296^n=(c1*4294967296+c2)*4294967296^n+4294967296^n:=by rw[lK _ 1,ja]
  have h3:(c1*4294967296+4294967296)*4294967296^n=(c1+1)*4294967296^(n+1):=by rw[hM];generalize (4294967296:Int)^n=y;grind
  have h4:b1*4294967296^(n+1)*d≤(k:Int)*d:=jI k1 af;have h5:(c1+1)*4294967296^(n+1)≤b1*d*4294967296^(n+1):=jI af af;have h6:b1*4294967296^(n+1)*d=b1*d*4294967296^(n+1):=by generalize (4294967296:Int)^(n+1)=y;grind
  omega
def Y9{U:List Int}{j:Nat}{ws EE:List Int}(h:j+ws.length≤U.length)(hl:EE.length=ws.length):c8 (c8 U j ws) j EE=c8 U j EE:=by unfold c8;rw[show(U.take j++(ws++U.drop (j+ws.length))).take j=U.take j from YY h,hl];have hj:(U.take j).length=j:=cT;rw[List.drop_append,hj,Kt af,wH,show j+ws.length-j=ws.length by omega,List.drop_left'];rfl
set_option maxHeartbeats 8000000 in
def ajz(m k n:Nat)(hn:(az k).length=n+2)(rH:k≤m)(lm:(az m).length≤1099511627776):aG Tryz.prog 152 [cS aE (az m),cS aE (az k)] (.t [(false,[.S aE (az (m/k))]),(false,[.S aE (az (m%k))])]):=by
 refine aX Tryz.func152 ae ae ae ae ae ak ?_;generalize jq:(az k).getD (n+1) 0=b1;obtain⟨d,hd⟩:∃d:Nat,(d:Int)=4294967296/(b1+1):=⟨(4294967296/(b1+1)).toNat,DD (xS ak (by have:=dd (eK k) (n+1);omega))⟩;obtain⟨f1,f2,f3,f4,f5,f6,f7⟩:=ajy hn jq.symm hd;have gV:0<k:=by
  rcases wE k with e|e
  ·subst e;rw[DT]at hn;simp at hn
  ·exact e
 have EG:n+2≤(az m).length:=by rw[←hn];exact te rH
 obtain⟨M,hM⟩:∃M,(az m).length=M+(n+2):=⟨(az m).length-(n+2),by omega⟩;have RK:((m*d:Nat):Int)<4294967296^(M+(n+2)+1):=by have h1:=va (n:=m);rw[hM]at h1;rw[qK,gi];have:=jZ (M+(n+2));have h2:(m:Int)*d≤(m:Int)*4294967296:=jx af af;omega
 have as9:(az (m*d)).length≤M+(n+2)+1:=By RK;have HX:¬dz (m:Int) (k:Int)<0:=by unfold dz;rw[aq af];split<;>decide
 refine rr ae (aj (rb (rc ae ae (HQ m k) (re ae (ax ae (λh=>absurd cq HX) (λ_=>aC (ai ?_)))))));refine aj (rr ae (ax ae (λh=>?_) (λ_=>aC (ai ?_))))
 ·exfalso;have h:((az k).length:Int)=1:=cq;omega
 have a2:(((az k).length:Int)-1).toNat=n+1:=af;have x1:IntKind.wrap .u64 (IntKind.wrap .u64 ((az k).getD (((az k).length:Int)-1).toNat 0)+1)=b1+1:=by rw[a2,jq,wrap_u64 b1 af af,wrap_u64 _ af af]
 have x2:IntKind.wrap .u64 ((4294967296:Int).tdiv (IntKind.wrap .u64 (IntKind.wrap .u64 ((az k).getD (((az k).length:Int)-1).toNat 0)+1)))=(d:Int):=by rw[x1,EJ ak,←hd,wrap_u64 _ af af]
 refine rr ae (rr ae (hp:=by simp only[Pr.an,Pr.h,num,aA,true_and,and_true];rw[x1];omega) ?_);refine dy (st':=⟨[(0,cS aE (az m)),(1,cS aE (az k)),(8,cI ((n+2:Nat):Int)),(9,cU d)],[],5,[]⟩) (wk ⟨sR ae,sR ae,⟨_,ae,au.of_eq (ay (λz:Nat=>cI (z:Int)) hn)⟩,⟨_,ae,au.of_eq (ay (λz=>AV.c (C.I .u64 z)) x2)⟩,ah⟩ ah) ?_;refine rb (rc ae ae (Cc d af) (rc ae ae (Rk k d af (by have:=Al (m:=d) af;omega)) (re ae ?_)));refine rb (rm aE ((az m).length+1) ae ae ae ae ae ae (lU .u32) af ?_ ?_ (re ae ?_))
 ·show _*4≤_;omega
 ·show _*1≤_;omega
 refine rb (rc ae ae (Cc d af) (rc ae ae (Rk m d af (by have:=Al (m:=d) af;omega)) ?_));refine HJ ae ae ae ae ae O5 be (re ae ?_);generalize xd:az (m*d)++(List.replicate ((az m).length+1) (0:Int)).drop (az (m*d)).length=U0;refine rb (rm aE (M+1) ae ae ae ae ae ae (lU .u32) af ?_ ?_ (re ae ?_))
 ·show _*4≤_;omega
 ·show _*1≤_;omega
 have HY:val U0=((m*d:Nat):Int):=by rw[←xd,DS,ff,show(List.replicate ((az m).length+1) (0:Int)).drop (az (m*d)).length=List.replicate ((az m).length+1-(az (m*d)).length) 0 by simp,wK];simp
 have HZ:bV U0:=by rw[←xd];exact PR (eK _) (zM (sJ _) _)
 have RL:U0.length=M+(n+2)+1:=by rw[←xd];simp;omega
 have oS:(0:Int)<((k*d:Nat):Int):=by have:0<k*d:=zG gV af;omega
 have RM:vC ((m*d:Nat):Int) ((k*d:Nat):Int) (n+2) M (M+1,U0,List.replicate (M+1) 0):=by
  refine⟨bD _,RL,HZ,?_,by simp,sJ _,λi hi=>?_,?_⟩
  ·show val (U0.drop (M+1))<_;have h1:=An U0 (M+1) af;have h2:=mz (jY HZ (M+1));have hp:=jZ (M+1);by_cases e:val (U0.drop (M+1))<((k*d:Nat):Int)
   ·exact e
   ·exfalso;have h3:4294967296^(M+1)*((k*d:Nat):Int)≤4294967296^(M+1)*val (U0.drop (M+1)):=jx af af;have h4:=KQ (eK k) (u9 k) (by intro e;rw[e]at hn;simp at hn);rw[ff,hn,show n+2-1=n+1 by omega]at h4;have h5:=va (n:=m);rw[hM,show M+(n+2)=M+1+(n+1)by omega,Int.pow_add]at h5;have h6:4294967296^(M+1)*4294967296^(n+1)*(d:Int)≤4294967296^(M+1)*((k*d:Nat):Int):=by rw[gi,ke];exact jx (jI h4 af) af
    have h7:(m:Int)*d<4294967296^(M+1)*4294967296^(n+1)*(d:Int):=Ko h5 af;rw[HY,gi m d]at h1;omega
  ·show(List.replicate (M+1) (0:Int)).getD i 0=0;rw[aU,mU];split<;>rfl
  ·show _=val U0+_*val (List.replicate (M+1) 0);rw[wK,HY];omega
 refine aj (rr ae ?_);refine aH (bA (α:=Nat×List Int×List Int) (λx=>⟨[(8,cI ((n+2:Nat):Int)),(9,cU d),(10,cS aE (az (k*d))),(11,.c (.X 6003000)),(12,.c (.X 8005000)),(13,cI ((x.1:Int)-1))],[(6003000,.vec 23 aE x.2.1),(8005000,.vec 23 aE x.2.2)],10,[]⟩) (vC ((m*d:Nat):Int) ((k*d:Nat):Int) (n+2) M) (λx=>x.1) (M+1,U0,List.replicate (M+1) 0) RM (wk ⟨sR ae,sR ae,sR ae,sR ae,sR ae,sE ae ?_,ah⟩ ⟨bR ae,bR ae,ah⟩) ?_)
 ·exact ay cI af
 rintro⟨c,U,Q⟩ hI;have g9:U.length=M+(n+2)+1:=hI.ul;have qF:bV U:=hI.ur;have rW:Q.length=M+1:=hI.ql;have hck:c≤M+1:=hI.k;refine aj (rr ae ?_);refine ax ae (λh=>?_) (λh=>?_)
 ·have h:(c:Int)-1≥0:=by simpa using h
  obtain⟨j,rfl⟩:∃j,c=j+1:=⟨c-1,by omega⟩;have ej:((j+1:Nat):Int)-1=(j:Int):=af;rw[ej];have Ao:=hI.next oS f5;obtain⟨_,m6⟩:=hI.RF f5;have hK:=Y3 (U:=U) (v:=az (k*d)) (j:=j) (n:=n) qF (eK _) f6 af f7 (by rw[ff];exact m6);have kD:=dd (eK (k*d)) (n+1);have hg:=LI hK 2 ((U.getD (j+(n+2)) 0*4294967296+U.getD (j+(n+1)) 0)/(az (k*d)).getD (n+1) 0) ((U.getD (j+(n+2)) 0*4294967296+U.getD (j+(n+1)) 0)%(az (k*d)).getD (n+1) 0);have Am:=hK.first;generalize HS:(az (k*d)).getD (n+1) 0=v1 at hg kD f7 Am;generalize hte:U.getD (j+(n+2)) 0*4294967296+U.getD (j+(n+1)) 0=t at hg Am;have vo:=gZ t (show v1≠0 by omega);have n5:=iv t (show 0<v1 by omega);have hg:=hg (by have h1:=pq t v1;have h2:=fh (t/v1) v1;omega) vo af af Am;rw[←hte,←HS]at hg;have qM:=ajm U (az (k*d)) j n qF (eK _) f6 af af hK;have nF:=hK.q0;generalize tf 2 ((U.getD (j+(n+2)) 0*4294967296+U.getD (j+(n+1)) 0)/(az (k*d)).getD (n+1) 0) ((U.getD (j+(n+2)) 0*4294967296+U.getD (j+(n+1)) 0)%(az (k*d)).getD (n+1) 0) ((az (k*d)).getD (n+1) 0) ((az (k*d)).getD n 0) (U.getD (j+n) 0)=q at*;rw[ff]at hg nF;have yz:=ajp U (az (k*d)) j (n+3) q qF (eK _) af af af hg.2.2 af;rw[ff]at yz;rw[show n+2+1=n+3 from ae]at Ao m6;generalize hu:val ((U.drop j).take (n+3))=u at*;have qL:=pq u ((k*d:Nat):Int);have ju:=gZ u (show((k*d:Nat):Int)≠0 by omega);have qE:=iv u oS;generalize hv:((k*d:Nat):Int)=v at*;refine aC (ai (aj (aH ?_)));refine rb (YL j (j+(n+3)) ae ae ae ae ae ae af af (by show j+(n+3)≤U.length;omega) (re ae ?_))
  refine dy (st':=⟨[(8,cI ((n+2:Nat):Int)),(9,cU d),(10,cS aE (az (k*d))),(11,.c (.X 6003000)),(12,.c (.X 8005000)),(13,cI j),(14,.c (.W 6003000 j (n+3)))],[(6003000,.vec 23 aE U),(8005000,.vec 23 aE Q)],12,[]⟩) (wk ⟨sR ae,sR ae,sR ae,sR ae,sR ae,sR ae,⟨_,ae,au.of_eq (ay (λz=>AV.c (C.W 6003000 j z)) af)⟩,ah⟩ ⟨bR ae,bR ae,ah⟩) ?_;refine rb (n9 6003000 ae qM ae ae (re ae ?_));refine aj (rb (n9 6003000 ae yz ae ae (re ae ?_)));have pO:∀x,(bZ (n+3) x).length=n+3:=λx=>uj _ _
  refine ax ae (λh=>?_) (λh=>?_)
  ·have h:u-q*v<0:=by simpa using h
   have EN:q=u/v+1:=by
    by_cases e:q=u/v
    ·subst e;have:=fh (u/v) v;omega
    ·omega
   have RN:q*v=v*(u/v)+v:=by rw[EN,lK,ja,fh]
   have hr:bV (c8 U j (bZ (n+3) (u-q*v))):=RB qF (HT _ _);have fM:=ajq (c8 U j (bZ (n+3) (u-q*v))) (az (k*d)) j (n+3) hr (eK _) (by rw[yx wq];omega) af (by rw[yx wq];omega);have e1:c8 (c8 U j (bZ (n+3) (u-q*v))) j (bZ (n+3) (val (((c8 U j (bZ (n+3) (u-q*v))).drop j).take (n+3))+val (az (k*d))))=c8 U j (bZ (n+3) (u%v)):=by rw[Y9 wq (by rw[pO,pO]),RC wq,Bc wq,lI wq,HU,ff,hv];refine ay (c8 U j) (LK _ _ _ ?_);rw[Int.emod_add_emod];congr 1;omega
   rw[e1]at fM;have w1:IntKind.wrap .u64 (q-1)=u/v:=by rw[wrap_u64 _ af af];omega
   refine rr ae (cK (n9 6003000 ae fM ae ae (re ae (ai ?_))));refine dy (st':=⟨[(8,cI ((n+2:Nat):Int)),(9,cU d),(10,cS aE (az (k*d))),(11,.c (.X 6003000)),(12,.c (.X 8005000)),(13,cI j),(15,cU (u/v))],[(6003000,.vec 23 aE (c8 U j (bZ (n+3) (u%v)))),(8005000,.vec 23 aE Q)],16,[]⟩) (wk ⟨sR ae,sR ae,sR ae,sR ae,sR ae,sR ae,⟨_,ae,au.of_eq (ay (λz=>AV.c (C.I .u64 z)) w1)⟩,ah⟩ ⟨bR ae,bR ae,ah⟩) ?_;refine rt ae (hp:=jT) ?_;refine a6 (ai (rt ae (a8 (j,c8 U j (bZ (n+3) (u%v)),Q.set j (u/v)) Ao (fT j) (wk ⟨sR ae,sR ae,sR ae,sR ae,sR ae,sR ae,ah⟩ ⟨bR ae,bE ae ?_,ah⟩))));refine ay (aK.vec 23 aE) ?_;show Q.set (j:Int).toNat (IntKind.wrap .u32 (u/v))=Q.set j (u/v);rw[bu,wrap_u32 _ af af]
  ·have h:¬u-q*v<0:=by simpa using h
   have EN:q=u/v:=by
    by_cases e:q=u/v
    ·exact e
    ·exfalso;have e2:q=u/v+1:=af;have RN:q*v=v*(u/v)+v:=by rw[e2,lK,ja,fh]
     omega
   have e1:u-q*v=u%v:=by have:=fh (u/v) v;rw[EN];omega
   refine aC (ai ?_);refine dy (st':=⟨[(8,cI ((n+2:Nat):Int)),(9,cU d),(10,cS aE (az (k*d))),(11,.c (.X 6003000)),(12,.c (.X 8005000)),(13,cI j),(15,cU (u/v))],[(6003000,.vec 23 aE (c8 U j (bZ (n+3) (u%v)))),(8005000,.vec 23 aE Q)],16,[]⟩) (wk ⟨sR ae,sR ae,sR ae,sR ae,sR ae,sR ae,⟨_,ae,au.of_eq (ay (λz=>AV.c (C.I .u64 z)) EN)⟩,ah⟩ ⟨⟨_,ae,di.of_eq (ay (λz=>aK.vec 23 aE (c8 U j (bZ (n+3) z))) e1)⟩,bR ae,ah⟩) ?_;refine rt ae (hp:=jT) ?_;refine a6 (ai (rt ae (a8 (j,c8 U j (bZ (n+3) (u%v)),Q.set j (u/v)) Ao (fT j) (wk ⟨sR ae,sR ae,sR ae,sR ae,sR ae,sR ae,ah⟩ ⟨bR ae,bE ae ?_,ah⟩))));refine ay (aK.vec 23 aE) ?_;show Q.set (j:Int).toNat (IntKind.wrap .u32 (u/v))=Q.set j (u/v);rw[bu,wrap_u32 _ af af]
 ·have h:¬(c:Int)-1≥0:=by simpa using h
  have hc:c=0:=af;subst hc;obtain⟨e1,e2⟩:=hI.fin;have hmul:∀x:Nat,((x*d:Nat):Int)=(x:Int)*(d:Int):=λx=>gi x d
  have q1:a7 Q=az (m/k):=by
   rw[qn hI.qr];show az (val Q).toNat=_;rw[e1];have:((m*d:Nat):Int)/((k*d:Nat):Int)=((m/k:Nat):Int):=by rw[←Bl,Nat.mul_div_mul_right _ _ af]
   rw[this,bu]
  have q2:az (val (a7 U)/(d:Int)).toNat=az (m%k):=by
   rw[W4];show az (val U/(d:Int)).toNat=_;rw[e2];have:((m*d:Nat):Int)%((k*d:Nat):Int)/(d:Int)=((m%k:Nat):Int):=by rw[←GH,Nat.mul_mod_mul_right,←Bl,WO _ af]
   rw[this,bu]
  have uo:=YU (a7 U) (d:Int) (W5 qF) af af (by
   have h2:(a7 U).length≤n+2:=by rw[qn qF];apply By;have h3:val U<((k*d:Nat):Int):=hI.ub;have h4:=mz qF;omega
   omega)
  rw[q2]at uo;refine bh (bt (bq (bp (ai (fY 6003000 ae ae ae (fY 8005000 ae ae ae ?_))))));refine rb (rc ae ae (Ak U) (rc ae ae uo (re ae ?_)));refine rb (rc ae ae (Ak Q) (re ae (aF (aL ar ae (au.of_eq ?_)))));rw[q1]
def Y'(m k:Nat)(hk:k≠0)(lm:(az m).length≤1099511627776):aG Tryz.prog 152 [cS aE (az m),cS aE (az k)] (.t [(false,[.S aE (az (m/k))]),(false,[.S aE (az (m%k))])]):=by
 by_cases h:m<k∨k<4294967296
 ·exact YV m k hk h lm
 ·have h1:2≤(az k).length:=by
   by_cases e:2≤(az k).length
   ·exact e
   ·exfalso;have h2:=va (n:=k);have h3:=vb (m:=(az k).length) (n:=1) af;rw[GM]at h3;omega
  exact ajz m k ((az k).length-2) af af lm
def ajC(a b:Int)(hb:b≠0)(ha:Sm a)(nZ:Sm b):aG Tryz.prog 81 [aZ a,aZ b] (.t [(true,av .z (a/b)),(true,av .z (a%b)),(false,[.I .i64 0])]):=by
 refine aX Tryz.func81 ae ae ae ae ae ak ?_;refine rr ae (aj (rr ae ?_));have du:b.natAbs≠0:=af;refine ax ae (λh2=>?_) (λh2=>?_)
 ·exfalso;have h2:((dc b).length:Int)=0:=gY;have:=nh.2 du;unfold dc at h2;omega
 ·refine aC (ai (rb (rc ae ae (Y' _ _ du ha) (re ae (aj (rb ?_))))));refine rg 25 ae ae (λh3=>?_) (λh3=>?_)
  ·have h3:a<0:=by simpa[bN]using h3
   refine re ae (ax ae (λh4=>?_) (λh4=>?_))
   ·have h4:a.natAbs%b.natAbs≠0:=by have h4:((az (a.natAbs%b.natAbs)).length:Int)>0:=uS;exact nh.1 af
    obtain⟨e1,e2⟩:=Rq (qj du) h3 h4;have hz:bN a=true:=zp;obtain⟨e3,e4⟩:=yw a b (a.natAbs/b.natAbs+1) (b.natAbs-a.natAbs%b.natAbs) zr e2;have hr:a.natAbs%b.natAbs<b.natAbs:=iy _ (qj du);refine rb (rl aE [_] ae ae (rc ae ae (Rj (a.natAbs/b.natAbs) 1 ?_ ak) (re ae (cK (rc ae ae (LF b.natAbs _ af nZ) (re ae (ai (rb ?_))))))))
    ·exact dF (te (DI _ _)) ha
    refine rc ae ae (mI _ _) (rc ae ae (mI _ _) (re ae (aF (aL ar ae (au.of_eq ?_)))));rw[e3,e4];rfl
   ·have h4:a.natAbs%b.natAbs=0:=by have h4:¬((az (a.natAbs%b.natAbs)).length:Int)>0:=uS;exact Decidable.byContradiction λaR=>by have:=nh.2 aR;omega
    obtain⟨e1,e2⟩:=Rp (qj du) h3 h4;have hz:bN a=true:=zp;obtain⟨e3,e4⟩:=yw a b (a.natAbs/b.natAbs) (a.natAbs%b.natAbs) zr (by rw[e2,h4];rfl);refine aC (ai (rb (rc ae ae (mI _ _) (rc ae ae (mI _ _) (re ae (aF (aL ar ae (au.of_eq ?_))))))));rw[e3,e4];rfl
  ·have h3:¬a<0:=by simpa[bN]using h3
   refine re ae (ax ae (λh4=>by simp at h4) (λh4=>?_));obtain⟨e1,e2⟩:=Ro (qj du) h3;have hz:bN a=false:=zp;obtain⟨e3,e4⟩:=yw a b (a.natAbs/b.natAbs) (a.natAbs%b.natAbs) zr e2;refine aC (ai (rb (rc ae ae (mI _ _) (rc ae ae (mI _ _) (re ae (aF (aL ar ae (au.of_eq ?_))))))));rw[e3,e4];rfl
def ajD(m k:Nat)(lm:(az m).length≤1099511627776)(lk:(az k).length≤1099511627776):aG Tryz.prog 151 [cS aE (az m),cS aE (az k)] (cS aE (az (Nat.gcd m k))):=by
 refine aX Tryz.func151 ae ae ae ae ae ak ?_;refine rr ae (aj (aH (bA (α:=Nat×Nat) (λx=>⟨[(0,cS aE (az x.1)),(1,cS aE (az x.2))],[],1,[]⟩) (λx=>Nat.gcd x.1 x.2=Nat.gcd m k∧(az x.1).length≤1099511627776∧(az x.2).length≤1099511627776) (λx=>x.2) (m,k) ⟨ae,lm,lk⟩ bY ?_)));rintro⟨x,y⟩ ⟨hg,lx,ly⟩;simp only at hg lx ly;refine aj (rr ae ?_);refine ax ae (λh=>?_) (λh=>?_)
 ·have hy:y≠0:=by have h:((az y).length:Int)>0:=cq;exact nh.1 af
  have step:aG Tryz.prog 152 [cS aE (az x),cS aE (az y)] (.t [(false,[.S aE (az (x/y))]),(false,[.S aE (az (x%y))])]):=Y' x y hy lx;have Za:Nat.gcd y (x%y)=Nat.gcd m k:=by rw[←hg,Bq x y,Nat.gcd_rec y x,Bq]
  have br:x%y<y:=iy _ af;have Zb:(az (x%y)).length≤1099511627776:=dF (te af) ly;refine aC (ai (aH (aj (rb ?_))));refine rg 13 ae ae (λh2=>?_) (λh2=>?_)
  ·have h2:(az x).length≤2:=by have h2:((az x).length:Int)≤2:=gY;omega
   refine re ae (ax ae (λh3=>?_) (λh3=>?_))
   ·have h3:(az y).length≤2:=by have h3:((az y).length:Int)≤2:=xM;omega
    have hx:x<18446744073709551616:=by have h5:=va (n:=x);have h6:=vb h2;rw[show(4294967296:Int)^2=18446744073709551616 from ae]at h6;omega
    have RO:y<18446744073709551616:=by have h5:=va (n:=y);have h6:=vb h3;rw[show(4294967296:Int)^2=18446744073709551616 from ae]at h6;omega
    refine rb (rc ae ae (LG x hx) (rc ae ae (LG y RO) (rc ae ae (YS x y hx RO) (rc ae ae (Cc _ ?_) (re ae (aF ?_))))))
    ·by_cases h0:x=0
     ·rw[h0,Nat.gcd_zero_left];exact RO
     ·exact zy (Nat.gcd_le_left y af) hx
    ·repeat(first|refine bS ?_|refine fq ?_|refine gU ?_)
     refine aL ar ae (au.of_eq ?_);rw[←hg]
   ·refine aC (ai (rb (rc ae ae step (re ae (rr ae (rt ae (a6 (a8 (y,x%y) ⟨Za,ly,Zb⟩ br bY))))))))
  ·refine re ae (ax ae (λh3=>by cases h3) (λ_=>?_));refine aC (ai (rb (rc ae ae step (re ae (rr ae (rt ae (a6 (a8 (y,x%y) ⟨Za,ly,Zb⟩ br bY))))))))
 ·have h:(az y).length=0:=by have:¬((az y).length:Int)>0:=cq;omega
  have h0:y=0:=Decidable.byContradiction λaR=>by have:=nh.2 aR;omega
  subst h0;refine bh (bt (bq (bp (ai (rr ae (aF (aL ar ae (au.of_eq ?_))))))));rw[←hg,Kz]
def Zc(a b:Int)(ha:Sm a)(hb:Sm b):aG Tryz.prog 80 [aZ a,aZ b] (aZ (Int.gcd a b)):=by refine aX Tryz.func80 ae ae ae ae ae ak ?_;refine rr ae (rb ?_);refine rc ae ae (ajD _ _ ha hb) (rc ae ae (mI false _) (re ae (aF (aL ar ae (au.of_eq ?_)))));rfl
def ajE(a:List Int)(i:Nat):aG Tryz.prog 115 [cS .z a,cI i] (aZ (a.getD i 0)):=by
 refine aX Tryz.func115 ae ae ae ae ae ak ?_;refine rr ae (aj (rr ae ?_));refine ax ae (λh=>?_) (λh=>?_)
 ·have h:i<a.length:=by simpa using h
  refine rr ae (aF (bS (aL ar ae (au.of_eq ?_))));rfl
 ·have h:¬i<a.length:=by simpa using h
  refine aC (ai (rb (rc ae ae (Ch 0 ak ak) (re ae (aF (aL ar ae (au.of_eq ?_)))))));have e:a.getD i 0=0:=by simp[aU,nn (GF h)]
  rw[e];rfl
def EO{a:Int}:cN a=0↔a=0:=by
 unfold cN;split
 ·omega
 ·split<;>omega
def ajF(a:List Int):aG Tryz.prog 114 [cS .z a] (cS .z (a7 a)):=by
 refine aX Tryz.func114 ae ae ae ae ae ak (Aa 0 ae λhb=>?_);have hb:a.length*2≤140737488355328:=hb;refine rr ae (aj (aH (bA (α:=Nat) (λk=>⟨[(0,cS .z (a.take k))],[],1,[]⟩) (λk=>k≤a.length∧iM a k=iM a a.length) (λk=>k) a.length ⟨bD _,ae⟩ (wk ⟨⟨_,ae,au.of_eq (by rw[iK])⟩,ah⟩ ah) ?_)));rintro k ⟨hk,iR⟩;have hlen:(a.take k).length=k:=cT;refine aj (rb ?_);refine rg 6 ae ae (λh=>?_) (λh=>?_)
 ·have h:0<k:=by have h:(((a.take k).length:Nat):Int)>0:=cq;rw[hlen]at h;omega
  obtain⟨j,rfl⟩:∃j,k=j+1:=⟨k-1,by omega⟩;have ej:(((a.take (j+1)).length:Int)-1).toNat=j:=by rw[hlen];omega
  have ev:(a.take (j+1)).getD j 0=a.getD j 0:=by rw[aU,Du af,←aU]
  refine fj ae ae ae ae ae (EH ((a.take (j+1)).getD (((a.take (j+1)).length:Int)-1).toNat 0)) (re ae ?_) (hp:=jT);refine ax ae (λh2=>?_) (λh2=>?_)
  ·have h2:a.getD j 0=0:=by have h2:cN ((a.take (j+1)).getD (((a.take (j+1)).length:Int)-1).toNat 0)=0:=gY;rw[ej,ev]at h2;exact EO.1 h2
   refine aC (ai (aH (rt ae (a6 (a8 j ⟨by omega,?_⟩ po (wk ⟨sE ae ?_,ah⟩ ah))) (hp:=jT))))
   ·rw[←iR,iM,aw h2]
   ·rw[ej];simp only[uY,PD];rw[tN af]
  ·have h2:a.getD j 0≠0:=by have h2:¬cN ((a.take (j+1)).getD (((a.take (j+1)).length:Int)-1).toNat 0)=0:=gY;rw[ej,ev]at h2;exact λe=>h2 (EO.2 e)
   refine bh (bt (bq (bp (ai (rr ae (aF (aL ar ae (au.of_eq ?_))))))));unfold a7;rw[←iR,iM,aq h2]
 ·have h:k=0:=by have h:¬(((a.take k).length:Nat):Int)>0:=cq;rw[hlen]at h;omega
  subst h;refine re ae (ax ae (λh2=>by simp at h2) (λ_=>?_));refine bh (bt (bq (bp (ai (rr ae (aF (aL ar ae (au.of_eq ?_))))))));unfold a7;rw[←iR];rfl
def cf(x:Int):Rat:=if 100≤x then Rat.divInt ((x.tmod 7:Int)*((1:Nat):Int)) (((1:Nat):Int)*3)else((x.tmod 7:Int):Rat)
def iS(l:List Rat):Nat→Nat
 |0=>0
 |n+1=>if(l.getD n 0).num=0 then iS l n else n+1
def eo(l:List Rat):List Rat:=l.take (iS l l.length)
def hJ(l:List Int)(most:Nat):List Rat:=eo ((l.take (most+1)).map cf)
def RP(x:Int): -6≤x.tmod 7∧x.tmod 7≤6:=by rw[Int.tmod_eq_emod];split<;>omega
def ajG(l:List Int)(i:Nat)(h:i<l.length):((l.take (i+1)).map cf)=((l.take i).map cf)++[cf (l.getD i 0)]:=by rw[uV,eh];simp[cr h,aU]
set_option maxHeartbeats 2000000 in
def RQ(l:List Int)(most:Nat)(as':most≤1000)(hl:∀x∈l,-128≤x∧x≤127):aG Tryz.prog 17 [cS I8 l,cI most] (cS .q (hJ l most)):=by
 refine aX Tryz.func17 ae ae ae ae ae ak (Aa 0 ae λhb=>?_);have hb:l.length*1≤140737488355328:=hb;refine rr ae (rb (yr .q [] ae ae (re ae (aj (rr ae ?_)))));refine aH (bA (α:=Nat) (λi=>⟨[(0,cS I8 l),(1,cI most),(5,.c (.X 1000000)),(6,cI i)],[(1000000,.vec 46 .q ((l.take i).map cf))],3,[]⟩) (λi=>i≤l.length∧i≤most+1) (λi=>l.length-i) 0 ⟨bK _,bK _⟩ bY ?_);rintro i ⟨hi,vu⟩;refine aj (rb ?_);refine rg 13 ae ae (λh=>?_) (λh=>?_)
 ·have h:i<l.length:=by simpa using h
  refine re ae (ax ae (λh2=>?_) (λh2=>?_))
  ·have h2:i≤most:=by have h2:(i:Int)≤most:=gY;omega
   have hx: -128≤l.getD i 0∧l.getD i 0≤127:=by rw[aU,cr h];exact hl _ (k6 h)
   have h7:=RP (l.getD i 0);have h7':=RP (l.getD (i:Int).toNat I8.eR);have Lm:=ajG l i h;refine aC (ai (aj (aH (rb ?_))));refine rc ae ae (EM ((l.getD (i:Int).toNat 0).tmod 7) (by rw[bu];omega) (by rw[bu];omega)) (re ae (aj (rr ae ?_)));refine ax ae (λh3=>?_) (λh3=>?_)
   ·have h3:100≤l.getD i 0:=by simpa using h3
    have yA:cf (l.getD i 0)=Rat.divInt (((l.getD i 0).tmod 7:Int)*((1:Nat):Int)) (((1:Nat):Int)*3):=by unfold cf;rw[aw h3]
    refine cK (rc ae ae (EM 3 ak ak) (rc ae ae (ajx _ _ ak (by show((l.getD (i:Int).toNat 0).tmod 7).natAbs≤65535;rw[bu];omega) (by show 1≤65535;decide) ak ak) (re ae (ai ?_))));refine dy (st':=⟨[(0,cS I8 l),(1,cI most),(5,.c (.X 1000000)),(6,cI i),(7,.c (.P 4007000 0))],[(4007000,.box 46 0 (av .q (cf (l.getD i 0)))),(1000000,.vec 46 .q ((l.take i).map cf))],6,[]⟩) (wk ⟨sR ae,sR ae,sR ae,sR ae,sR ae,ah⟩ ⟨bE ae ?_,bR ae,ah⟩) ?_
    ·rw[yA];rfl
    refine cK (rl .q [cf (l.getD i 0)] ae ae (ra ae ae ae ae ae ae ae ae ae ?_ ?_ (re ae ?_)))
    ·show(_+1+(_+1)/4+192)*64≤_;simp only[dM,fI];omega
    ·show(_+1)*4≤_;simp only[dM,fI];omega
    refine a6 (ai (rt ae (a8 (i+1) ⟨by omega,by omega⟩ (by show l.length-(i+1)<l.length-i;omega) (Wk.trans (wk (st':=⟨[(0,cS I8 l),(1,cI most),(5,.c (.X 6003000)),(6,cI ((i+1:Nat):Int))],[(6003000,.vec 46 .q ((l.take (i+1)).map cf))],8,[]⟩) ⟨sR ae,sR ae,sR ae,sE ae ?_,ah⟩ ⟨bE ae ?_,ah⟩) (Wk.trans (qI 1000000 6003000 ae ae ae) bY)))))
    ·rfl
    ·rw[Lm]
   ·have h3:¬100≤l.getD i 0:=by simpa using h3
    have yA:cf (l.getD i 0)=(((l.getD i 0).tmod 7:Int):Rat):=by unfold cf;rw[aq h3]
    refine aC (ai ?_);refine dy (st':=⟨[(0,cS I8 l),(1,cI most),(5,.c (.X 1000000)),(6,cI i),(7,.c (.P 4007000 0))],[(4007000,.box 46 0 (av .q (cf (l.getD i 0)))),(1000000,.vec 46 .q ((l.take i).map cf))],6,[]⟩) (wk ⟨sR ae,sR ae,sR ae,sR ae,sR ae,ah⟩ ⟨bE ae ?_,bR ae,ah⟩) ?_
    ·rw[yA];rfl
    refine cK (rl .q [cf (l.getD i 0)] ae ae (ra ae ae ae ae ae ae ae ae ae ?_ ?_ (re ae ?_)))
    ·show(_+1+(_+1)/4+192)*64≤_;simp only[dM,fI];omega
    ·show(_+1)*4≤_;simp only[dM,fI];omega
    refine a6 (ai (rt ae (a8 (i+1) ⟨by omega,by omega⟩ (by show l.length-(i+1)<l.length-i;omega) (Wk.trans (wk (st':=⟨[(0,cS I8 l),(1,cI most),(5,.c (.X 6003000)),(6,cI ((i+1:Nat):Int))],[(6003000,.vec 46 .q ((l.take (i+1)).map cf))],8,[]⟩) ⟨sR ae,sR ae,sR ae,sE ae ?_,ah⟩ ⟨bE ae ?_,ah⟩) (Wk.trans (qI 1000000 6003000 ae ae ae) bY)))))
    ·rfl
    ·rw[Lm]
  ·have h2:¬i≤most:=by have h2:¬(i:Int)≤most:=gY;omega
   have tY:l.take i=l.take (most+1):=by rw[show i=most+1 by omega]
   refine bh (bt (bq (bp (ai (fY 1000000 ae ae ae (dy (st':=⟨[(5,cS .q ((l.take i).map cf))],[],4,[]⟩) bY ?_))))));have hL:(l.take i).map cf=(l.take (most+1)).map cf:=by rw[tY]
   unfold hJ;rw[←hL];generalize uq:(l.take i).map cf=L;have Zd:L.length≤1001:=by rw[←uq];simp;omega
   refine aj (aH (bA (α:=Nat) (λk=>⟨[(5,cS .q (L.take k))],[],4,[]⟩) (λk=>k≤L.length∧iS L k=iS L L.length) (λk=>k) L.length ⟨bD _,ae⟩ (wk ⟨⟨_,ae,au.of_eq (by rw[iK])⟩,ah⟩ ah) ?_));rintro k ⟨hk,iR⟩;have hlen:(L.take k).length=k:=cT;refine aj (rb ?_);refine rg 45 ae ae (λh=>?_) (λh=>?_)
   ·have h:0<k:=by have h:(((L.take k).length:Nat):Int)>0:=cq;rw[hlen]at h;omega
    obtain⟨j,rfl⟩:∃j,k=j+1:=⟨k-1,by omega⟩;have ej:(((L.take (j+1)).length:Int)-1).toNat=j:=by rw[hlen];omega
    have ev:(L.take (j+1)).getD j 0=L.getD j 0:=by rw[aU,Du af,←aU]
    refine fj ae ae ae ae ae (HV ((L.take (j+1)).getD (((L.take (j+1)).length:Int)-1).toNat 0)) (re ae ?_) (hp:=jT);refine ax ae (λh2=>?_) (λh2=>?_)
    ·have h2:(L.getD j 0).num=0:=by have h2:cN ((L.take (j+1)).getD (((L.take (j+1)).length:Int)-1).toNat 0).num=0:=gY;rw[ej,ev]at h2;exact EO.1 h2
     refine aC (ai (aH (rt ae (a6 (a8 j ⟨by omega,?_⟩ po (wk ⟨sE ae ?_,ah⟩ ah))) (hp:=jT))))
     ·rw[←iR,iS,aw h2]
     ·rw[ej];simp only[uY,PD];rw[tN af]
    ·have h2:(L.getD j 0).num≠0:=by have h2:¬cN ((L.take (j+1)).getD (((L.take (j+1)).length:Int)-1).toNat 0).num=0:=gY;rw[ej,ev]at h2;exact λe=>h2 (EO.2 e)
     refine bh (bt (bq (bp (ai (rr ae (aF (aL ar ae (au.of_eq ?_))))))));unfold eo;rw[←iR,iS,aq h2]
   ·have h:k=0:=by have h:¬(((L.take k).length:Nat):Int)>0:=cq;rw[hlen]at h;omega
    subst h;refine re ae (ax ae (λh2=>by simp at h2) (λ_=>?_));refine bh (bt (bq (bp (ai (rr ae (aF (aL ar ae (au.of_eq ?_))))))));unfold eo;rw[←iR];rfl
 ·have h:¬i<l.length:=by simpa using h
  have tY:l.take i=l.take (most+1):=by rw[lI af,lI af]
  refine re ae (ax ae (λh2=>by simp at h2) (λ_=>?_));refine bh (bt (bq (bp (ai (fY 1000000 ae ae ae (dy (st':=⟨[(5,cS .q ((l.take i).map cf))],[],4,[]⟩) bY ?_))))));have hL:(l.take i).map cf=(l.take (most+1)).map cf:=by rw[tY]
  unfold hJ;rw[←hL];generalize uq:(l.take i).map cf=L;have Zd:L.length≤1001:=by rw[←uq];simp;omega
  refine aj (aH (bA (α:=Nat) (λk=>⟨[(5,cS .q (L.take k))],[],4,[]⟩) (λk=>k≤L.length∧iS L k=iS L L.length) (λk=>k) L.length ⟨bD _,ae⟩ (wk ⟨⟨_,ae,au.of_eq (by rw[iK])⟩,ah⟩ ah) ?_));rintro k ⟨hk,iR⟩;have hlen:(L.take k).length=k:=cT;refine aj (rb ?_);refine rg 45 ae ae (λh=>?_) (λh=>?_)
  ·have h:0<k:=by have h:(((L.take k).length:Nat):Int)>0:=cq;rw[hlen]at h;omega
   obtain⟨j,rfl⟩:∃j,k=j+1:=⟨k-1,by omega⟩;have ej:(((L.take (j+1)).length:Int)-1).toNat=j:=by rw[hlen];omega
   have ev:(L.take (j+1)).getD j 0=L.getD j 0:=by rw[aU,Du af,←aU]
   refine fj ae ae ae ae ae (HV ((L.take (j+1)).getD (((L.take (j+1)).length:Int)-1).toNat 0)) (re ae ?_) (hp:=jT);refine ax ae (λh2=>?_) (λh2=>?_)
   ·have h2:(L.getD j 0).num=0:=by have h2:cN ((L.take (j+1)).getD (((L.take (j+1)).length:Int)-1).toNat 0).num=0:=gY;rw[ej,ev]at h2;exact EO.1 h2
    refine aC (ai (aH (rt ae (a6 (a8 j ⟨by omega,?_⟩ po (wk ⟨sE ae ?_,ah⟩ ah))) (hp:=jT))))
    ·rw[←iR,iS,aw h2]
    ·rw[ej];simp only[uY,PD];rw[tN af]
   ·have h2:(L.getD j 0).num≠0:=by have h2:¬cN ((L.take (j+1)).getD (((L.take (j+1)).length:Int)-1).toNat 0).num=0:=gY;rw[ej,ev]at h2;exact λe=>h2 (EO.2 e)
    refine bh (bt (bq (bp (ai (rr ae (aF (aL ar ae (au.of_eq ?_))))))));unfold eo;rw[←iR,iS,aq h2]
  ·have h:k=0:=by have h:¬(((L.take k).length:Nat):Int)>0:=cq;rw[hlen]at h;omega
   subst h;refine re ae (ax ae (λh2=>by simp at h2) (λ_=>?_));refine bh (bt (bq (bp (ai (rr ae (aF (aL ar ae (au.of_eq ?_))))))));unfold eo;rw[←iR];rfl
end Go.El
namespace Go.El
def Ap(A B:Nat→Int)(n:Nat):Nat→Int
 |0=>0
 |i+1=>Ap A B n i+A i*B (n-i)
def conv(A B:Nat→Int)(n:Nat):Int:=Ap A B n (n+1)
def Ze(A B:Nat→Int)(n:Nat):∀k,(∀i,i<k→A i*B (n-i)=0)→Ap A B n k=0
 |0,_=>rfl
 |k+1,h=>by simp only[Ap,Ze A B n k (λi hi=>h i af),h k af];rfl
def RR(A B:Nat→Int)(n d:Nat):∀k,d<k→(∀i,i<k→i≠d→A i*B (n-i)=0)→Ap A B n k=A d*B (n-d)
 |0,h,_=>by omega
 |k+1,h,h2=>by
  simp only[Ap];by_cases hk:k=d
  ·subst hk;rw[Ze A B n k (λi hi=>h2 i af af)];omega
  ·rw[RR A B n d k af (λi hi=>h2 i af),h2 k af hk];omega
end Go.El
namespace Go.El
open Go Go.Proofs
def LQ(m:Nat)(hm:m<18446744073709551616):aG Tryz.prog 169 [cU m] (cS aE (az m)):=by
 refine aX Tryz.func169 ae ae ae ae ae ak ?_;refine rr ae (rb ?_);have e1:IntKind.wrap .u32 (m:Int)=((m%4294967296:Nat):Int):=O6;have e2:IntKind.wrap .u32 ((m:Int).fdiv (2^(min (32:Int).toNat (IntKind.bits .u64))))=((m/4294967296:Nat):Int):=by
  have:(m:Int).fdiv (2^(min (32:Int).toNat (IntKind.bits .u64)))=((m/4294967296:Nat):Int):=by rw[Dt _ ak];rfl
  rw[this,wrap_u32 _ af af]
 refine rl aE [_,_] ae ae ?_;refine rc ae ae (xa _) ?_;refine re ae (aF (aL ar ae (au.of_eq ?_)));rw[e1,e2,YM m hm]
def pP(neg:Bool)(m:Nat):aG Tryz.prog 168 [cB neg,cS aE (az m)] (aZ (sg neg m)):=by
 refine aX Tryz.func168 ae ae ae ae ae ak ?_;have ht:=xa (az m);rw[PV]at ht;refine rr ae (rb (rc ae ae ht (re ae (aj (rr ae ?_)))));refine ax ae (λh=>?_) (λh=>?_)
 ·have h:(az m).length=0:=by have h:((az m).length:Int)=0:=cq;omega
  have h0:m=0:=Decidable.byContradiction λaR=>by have:=nh.2 aR;omega
  subst h0;refine rr ae (aF (bS (aL ar ae ?_)));have e:sg neg 0=0:=by cases neg<;>rfl
  rw[e];refine⟨?_,λid al=>by cases al⟩;rintro g v ⟨vs,rfl,v1,r,rfl,h1,v2,r2,rfl,h2,rfl⟩;have h2:v2= .slice none 0 0:=h2;exact⟨_,ae,v1,_,ae,h1,v2,_,ae,by rw[h2];exact Yu g.H,ae⟩
 ·have h:(az m).length≠0:=by have h:¬((az m).length:Int)=0:=cq;omega
  refine aC (ai (rr ae (aF (aL ar ae (au.of_eq ?_)))));rw[←YO];have e:(neg&&decide (0<(az m).length))=neg:=by have:0<(az m).length:=af;simp[this]
  rw[e];rfl
def LR(ws:List Int)(hl:ws.length≤1099511627776):aG Tryz.prog 170 [cS aE ws] (cS aE ws):=by
 refine aX Tryz.func170 ae ae ae ae ae ak ?_;refine rr ae (rb (Q6 ae ae ae ae ae ae ae ae ?_ ?_ (re ae (fY 1001000 ae ae ae (aF (aL ar ae (au.refl _)))))))
 ·show(_+_/4+192)*4≤_;omega
 ·show _*1≤_;omega
def oT(n:Int)(h0: -9223372036854775808≤n)(h1:n≤9223372036854775807):aG Tryz.prog 100 [cI n] (aZ n):=by
 refine aX Tryz.func100 ae ae ae ae ae ak ?_;refine rr ae (rr ae (aj (rr ae ?_)));refine ax ae (λh=>?_) (λh=>?_)
 ·have h:n<0:=by simpa using h
  have e:IntKind.wrap .u64 (0-IntKind.wrap .u64 n)=((-n).toNat:Nat):=by simp[IntKind.wrap,IntKind.bits,IntKind.signed];omega
  refine rt ae (ai (rb ?_));refine rc ae ae (f:=169) (r:=cS aE (az (-n).toNat)) (by rw[show(AV.c (num .u64 (0-IntKind.wrap .u64 n)).1)=cU (((-n).toNat:Nat):Int)from ay (λx=>AV.c (C.I .u64 x)) e];exact LQ _ af) ?_;refine rc ae ae (pP _ _) (re ae (aF (aL ar ae (au.of_eq ?_))));have e2:sg (decide (n<0)) (-n).toNat=n:=by unfold sg;simp[h];omega
  exact ay aZ e2
 ·have h:¬n<0:=by simpa using h
  have e:IntKind.wrap .u64 n=(n.toNat:Nat):=by rw[wrap_u64 _ af af];omega
  refine aC (ai (rb ?_));refine rc ae ae (f:=169) (r:=cS aE (az n.toNat)) (by rw[show(AV.c (num .u64 n).1)=cU ((n.toNat:Nat):Int)from ay (λx=>AV.c (C.I .u64 x)) e];exact LQ _ af) ?_;refine rc ae ae (pP _ _) (re ae (aF (aL ar ae (au.of_eq ?_))));have e2:sg (decide (n<0)) n.toNat=n:=by unfold sg;simp[h];omega
  exact ay aZ e2
def Aq(a:Int):aG Tryz.prog 101 [aZ a] (cI (cN a)):=by
 refine aX Tryz.func101 ae ae ae ae ae ak ?_;refine rr ae (aj (rr ae ?_));refine ax ae (λh=>?_) (λh=>?_)
 ·have h:a=0:=by
   have h:((dc a).length:Int)=0:=cq;have:a.natAbs=0:=Decidable.byContradiction λaR=>by have:=nh.2 aR;unfold dc at h;omega
   omega
  refine rr ae (aF (bS (aL ar ae (au.of_eq ?_))));rw[h];rfl
 ·have h:a≠0:=by have h:¬((dc a).length:Int)=0:=cq;intro h0;subst h0;exact h ae
  refine aC (ai (aj (rr ae ?_)));refine ax ae (λh2=>?_) (λh2=>?_)
  ·have h2:a<0:=by simpa[bN]using h2
   refine rr ae (aF (bS (aL ar ae (au.of_eq ?_))));rw[cN,aw h2];rfl
  ·have h2:¬a<0:=by simpa[bN]using h2
   refine aC (ai (rr ae (aF (aL ar ae (au.of_eq ?_)))));rw[cN,aq h2,aq h];rfl
def LS(a:Int)(ha:Sm a):aG Tryz.prog 102 [aZ a] (aZ (-a)):=by
 refine aX Tryz.func102 ae ae ae ae ae ak ?_;refine rr ae (rb (rc ae ae (LR _ ha) (rc ae ae (pP (!bN a) a.natAbs) (re ae (aF (aL ar ae (au.of_eq ?_)))))));have e2:sg (!bN a) a.natAbs= -a:=by
  unfold sg bN;by_cases h:a<0
  ·simp[h];omega
  ·simp[h];omega
 exact ay aZ e2
set_option maxHeartbeats 2000000 in
def ajH(a b:List Int)(ha:bV a)(hb:bV b)(la:a.length≤1099511627776)(lb:b.length≤1099511627776):aG Tryz.prog 171 [cS aE a,cS aE b] (cS aE (az (val a+val b).toNat)):=by
 refine aX Tryz.func171 ae ae ae ae ae ak ?_;refine rr ae (aj (rr ae ?_));refine ax ae (λh=>?_) (λh=>?_)
 ·have hl:a.length≤b.length:=by have h:a.length<b.length:=cq;omega
  rw[xX (val a)];refine rt ae (ai ?_);revert ha hb la lb hl;generalize b=X;generalize a=Y;intro hY hX lY lX hl;refine dy (st':=⟨[(0,cS aE X),(1,cS aE Y)],[],30,[]⟩) bY (rb ?_);refine rm aE (X.length+1) ae ae ae ae ae ae (lU .u32) ae ?_ ?_ ?_
  ·show _*4≤_;omega
  ·show _*1≤_;omega
  refine re ae (rr ae (aj (rr ae ?_)));refine aH (bA (α:=Nat×List Int×Int) (λx=>⟨[(0,cS aE X),(1,cS aE Y),(5,.c (.X 30003000)),(6,cU x.2.2),(21,cI X.length),(22,cI x.1)],[(30003000,.vec 23 aE x.2.1)],33,[]⟩) (λx=>EF X Y (X.length+1) x∧x.1≤X.length) (λx=>X.length-x.1) (0,List.replicate (X.length+1) 0,0) ?_ ?_ ?_)
  ·refine⟨⟨bK _,by simp,sJ _,?_,jB _,Kh,by simp[wK,val]⟩,bK _⟩;intro j _;simp only[aU,mU];split<;>rfl
  ·exact wk ⟨sR ae,sR ae,sR ae,sR ae,sR ae,sR ae,ah⟩ ⟨bR ae,ah⟩
  ·rintro⟨i,o,c⟩ ⟨hI,hi⟩;have hi:i≤X.length:=hi;have hlen:o.length=X.length+1:=hI.len;have nE:0≤c:=hI.c0;have lQ:c≤1:=hI.c1;have ga:=dd hX i;have gb:=dd hY i;refine rr ae (aj ?_);refine ax ae (λh=>?_) (λh=>?_)
   ·have h:i<X.length:=by simpa using h
    have hn:=hI.next (by show i<X.length+1;omega) hX hY;simp only at hn;generalize ht:X.getD i 0+Y.getD i 0+c=s at hn;have e1:IntKind.wrap .u32 s=s%4294967296:=by simp[IntKind.wrap,IntKind.bits,IntKind.signed]
    have e2:s.fdiv (2^(min (32:Int).toNat (IntKind.bits .u64)))=s/4294967296:=by rw[Dt _ ak];rfl
    refine aC (ai (aj (aH (rr ae (rr ae (aj (rr ae ?_)))))));refine ax ae (λh2=>?_) (λh2=>?_)
    ·have h2:i<Y.length:=by simpa using h2
     refine rt ae (ai ?_);have e0:IntKind.wrap .u64 (IntKind.wrap .u64 (IntKind.wrap .u64 (X.getD (i:Int).toNat 0)+c)+IntKind.wrap .u64 (Y.getD (i:Int).toNat 0))=s:=by rw[bu,wrap_u64 (X.getD i 0) af af,wrap_u64 (Y.getD i 0) af af,wrap_u64 (X.getD i 0+c) af af,wrap_u64 _ af af];omega
     refine dy (st':=⟨[(0,cS aE X),(1,cS aE Y),(5,.c (.X 30003000)),(7,cI i),(8,cU s),(21,cI X.length),(22,cI i)],[(30003000,.vec 23 aE o)],40,[]⟩) (wk ⟨sR ae,sR ae,sR ae,sR ae,⟨_,ae,au.of_eq (ay (λx=>AV.c (C.I .u64 x)) e0)⟩,sR ae,sR ae,ah⟩ ⟨bR ae,ah⟩) ?_;refine rr ae (rt ae (a6 (ai (rt ae (a8 (i+1,o.set i (s%4294967296),s/4294967296) ⟨hn,by show i+1≤X.length;omega⟩ O7 (wk ⟨sR ae,sR ae,sR ae,sE ae ?_,sR ae,sE ae ae,ah⟩ ⟨bE ae ?_,ah⟩))))))
     ·exact ay (λx=>AV.c (C.I .u64 x)) e2
     ·rw[e1,bu]
    ·have h2:¬i<Y.length:=by simpa using h2
     have hY0:Y.getD i 0=0:=Wm;refine aC (ai ?_);have e0:IntKind.wrap .u64 (IntKind.wrap .u64 (X.getD (i:Int).toNat 0)+c)=s:=by rw[bu,wrap_u64 (X.getD i 0) af af,wrap_u64 _ af af];omega
     refine dy (st':=⟨[(0,cS aE X),(1,cS aE Y),(5,.c (.X 30003000)),(7,cI i),(8,cU s),(21,cI X.length),(22,cI i)],[(30003000,.vec 23 aE o)],40,[]⟩) (wk ⟨sR ae,sR ae,sR ae,sR ae,⟨_,ae,au.of_eq (ay (λx=>AV.c (C.I .u64 x)) e0)⟩,sR ae,sR ae,ah⟩ ⟨bR ae,ah⟩) ?_;refine rr ae (rt ae (a6 (ai (rt ae (a8 (i+1,o.set i (s%4294967296),s/4294967296) ⟨hn,by show i+1≤X.length;omega⟩ O7 (wk ⟨sR ae,sR ae,sR ae,sE ae ?_,sR ae,sE ae ae,ah⟩ ⟨bE ae ?_,ah⟩))))))
     ·exact ay (λx=>AV.c (C.I .u64 x)) e2
     ·rw[e1,bu]
   ·have h:¬i<X.length:=by simpa using h
    have hi:i=X.length:=af;subst hi;have ec:IntKind.wrap .u32 c=c:=wrap_u32 c nE af;refine bh (bt (bq (bp (ai (rr ae ?_)))));refine dy (st':=⟨[(5,.c (.X 30003000))],[(30003000,.vec 23 aE (o.set X.length c))],40,[]⟩) (wk ⟨sR ae,ah⟩ ⟨bE ae ?_,ah⟩) ?_
    ·rw[ec,bu]
    refine fY 30003000 ae ae ae (rb (rc ae ae (xa _) (re ae (aF (aL ar ae (au.of_eq ?_))))));have hr:bV (o.set X.length c):=zN hI.r _ ⟨nE,by omega⟩;have hv:=hI.v;simp only[iK]at hv;rw[nv Y X.length hl]at hv;rw[qn hr,HL o X.length c af (hI.z X.length (bD _)),hv]
 ·have hl:b.length≤a.length:=by have h:¬a.length<b.length:=cq;omega
  refine aC (ai ?_);revert ha hb la lb hl;generalize a=X;generalize b=Y;intro hX hY lX lY hl;refine dy (st':=⟨[(0,cS aE X),(1,cS aE Y)],[],30,[]⟩) bY (rb ?_);refine rm aE (X.length+1) ae ae ae ae ae ae (lU .u32) ae ?_ ?_ ?_
  ·show _*4≤_;omega
  ·show _*1≤_;omega
  refine re ae (rr ae (aj (rr ae ?_)));refine aH (bA (α:=Nat×List Int×Int) (λx=>⟨[(0,cS aE X),(1,cS aE Y),(5,.c (.X 30003000)),(6,cU x.2.2),(21,cI X.length),(22,cI x.1)],[(30003000,.vec 23 aE x.2.1)],33,[]⟩) (λx=>EF X Y (X.length+1) x∧x.1≤X.length) (λx=>X.length-x.1) (0,List.replicate (X.length+1) 0,0) ?_ ?_ ?_)
  ·refine⟨⟨bK _,by simp,sJ _,?_,jB _,Kh,by simp[wK,val]⟩,bK _⟩;intro j _;simp only[aU,mU];split<;>rfl
  ·exact wk ⟨sR ae,sR ae,sR ae,sR ae,sR ae,sR ae,ah⟩ ⟨bR ae,ah⟩
  ·rintro⟨i,o,c⟩ ⟨hI,hi⟩;have hi:i≤X.length:=hi;have hlen:o.length=X.length+1:=hI.len;have nE:0≤c:=hI.c0;have lQ:c≤1:=hI.c1;have ga:=dd hX i;have gb:=dd hY i;refine rr ae (aj ?_);refine ax ae (λh=>?_) (λh=>?_)
   ·have h:i<X.length:=by simpa using h
    have hn:=hI.next (by show i<X.length+1;omega) hX hY;simp only at hn;generalize ht:X.getD i 0+Y.getD i 0+c=s at hn;have e1:IntKind.wrap .u32 s=s%4294967296:=by simp[IntKind.wrap,IntKind.bits,IntKind.signed]
    have e2:s.fdiv (2^(min (32:Int).toNat (IntKind.bits .u64)))=s/4294967296:=by rw[Dt _ ak];rfl
    refine aC (ai (aj (aH (rr ae (rr ae (aj (rr ae ?_)))))));refine ax ae (λh2=>?_) (λh2=>?_)
    ·have h2:i<Y.length:=by simpa using h2
     refine rt ae (ai ?_);have e0:IntKind.wrap .u64 (IntKind.wrap .u64 (IntKind.wrap .u64 (X.getD (i:Int).toNat 0)+c)+IntKind.wrap .u64 (Y.getD (i:Int).toNat 0))=s:=by rw[bu,wrap_u64 (X.getD i 0) af af,wrap_u64 (Y.getD i 0) af af,wrap_u64 (X.getD i 0+c) af af,wrap_u64 _ af af];omega
     refine dy (st':=⟨[(0,cS aE X),(1,cS aE Y),(5,.c (.X 30003000)),(7,cI i),(8,cU s),(21,cI X.length),(22,cI i)],[(30003000,.vec 23 aE o)],40,[]⟩) (wk ⟨sR ae,sR ae,sR ae,sR ae,⟨_,ae,au.of_eq (ay (λx=>AV.c (C.I .u64 x)) e0)⟩,sR ae,sR ae,ah⟩ ⟨bR ae,ah⟩) ?_;refine rr ae (rt ae (a6 (ai (rt ae (a8 (i+1,o.set i (s%4294967296),s/4294967296) ⟨hn,by show i+1≤X.length;omega⟩ O7 (wk ⟨sR ae,sR ae,sR ae,sE ae ?_,sR ae,sE ae ae,ah⟩ ⟨bE ae ?_,ah⟩))))))
     ·exact ay (λx=>AV.c (C.I .u64 x)) e2
     ·rw[e1,bu]
    ·have h2:¬i<Y.length:=by simpa using h2
     have hY0:Y.getD i 0=0:=Wm;refine aC (ai ?_);have e0:IntKind.wrap .u64 (IntKind.wrap .u64 (X.getD (i:Int).toNat 0)+c)=s:=by rw[bu,wrap_u64 (X.getD i 0) af af,wrap_u64 _ af af];omega
     refine dy (st':=⟨[(0,cS aE X),(1,cS aE Y),(5,.c (.X 30003000)),(7,cI i),(8,cU s),(21,cI X.length),(22,cI i)],[(30003000,.vec 23 aE o)],40,[]⟩) (wk ⟨sR ae,sR ae,sR ae,sR ae,⟨_,ae,au.of_eq (ay (λx=>AV.c (C.I .u64 x)) e0)⟩,sR ae,sR ae,ah⟩ ⟨bR ae,ah⟩) ?_;refine rr ae (rt ae (a6 (ai (rt ae (a8 (i+1,o.set i (s%4294967296),s/4294967296) ⟨hn,by show i+1≤X.length;omega⟩ O7 (wk ⟨sR ae,sR ae,sR ae,sE ae ?_,sR ae,sE ae ae,ah⟩ ⟨bE ae ?_,ah⟩))))))
     ·exact ay (λx=>AV.c (C.I .u64 x)) e2
     ·rw[e1,bu]
   ·have h:¬i<X.length:=by simpa using h
    have hi:i=X.length:=af;subst hi;have ec:IntKind.wrap .u32 c=c:=wrap_u32 c nE af;refine bh (bt (bq (bp (ai (rr ae ?_)))));refine dy (st':=⟨[(5,.c (.X 30003000))],[(30003000,.vec 23 aE (o.set X.length c))],40,[]⟩) (wk ⟨sR ae,ah⟩ ⟨bE ae ?_,ah⟩) ?_
    ·rw[ec,bu]
    refine fY 30003000 ae ae ae (rb (rc ae ae (xa _) (re ae (aF (aL ar ae (au.of_eq ?_))))));have hr:bV (o.set X.length c):=zN hI.r _ ⟨nE,by omega⟩;have hv:=hI.v;simp only[iK]at hv;rw[nv Y X.length hl]at hv;rw[qn hr,HL o X.length c af (hI.z X.length (bD _)),hv]
def H4:ByteArray:={data:=(([0,1,2,2,3,3,3,3,4,4,4,4,4,4,4,4,5,5,5,5,5,5,5,5,5,5,5,5,5,5,5,5,6,6,6,6,6,6,6,6,6,6,6,6,6,6,6,6,6,6,6,6,6,6,6,6,6,6,6,6,6,6,6,6].append [7,7,7,7,7,7,7,7,7,7,7,7,7,7,7,7,7,7,7,7,7,7,7,7,7,7,7,7,7,7,7,7,7,7,7,7,7,7,7,7,7,7,7,7,7,7,7,7,7,7,7,7,7,7,7,7,7,7,7,7,7,7,7,7]).append ([8,8,8,8,8,8,8,8,8,8,8,8,8,8,8,8,8,8,8,8,8,8,8,8,8,8,8,8,8,8,8,8,8,8,8,8,8,8,8,8,8,8,8,8,8,8,8,8,8,8,8,8,8,8,8,8,8,8,8,8,8,8,8,8].append [8,8,8,8,8,8,8,8,8,8,8,8,8,8,8,8,8,8,8,8,8,8,8,8,8,8,8,8,8,8,8,8,8,8,8,8,8,8,8,8,8,8,8,8,8,8,8,8,8,8,8,8,8,8,8,8,8,8,8,8,8,8,8,8])).toArray}
def Zf(n:Nat):Bool:=match Ae H4 (n:Int)with
 |some l=>decide (0≤l)&&decide (l≤8)&&Nat.blt n (2^l.toNat)&&(Nat.ble (2^l.toNat) (2*n)||Nat.beq n 0)
 |none=>false
def ajJ:((List.range 256).all Zf)=true:=fR
def Zg{n:Nat}(h:n<256):∃l:Nat,Ae H4 (n:Int)=some (l:Int)∧l≤8∧n<2^l∧(2^l≤2*n∨n=0):=by
 have h1:=wG.1 ajJ n (k7.2 h);unfold Zf at h1;split at h1
 ·rename_i l e;simp only[eX,zz,decide_eq_true_eq]at h1;obtain⟨⟨⟨h2,h3⟩,h4⟩,h5⟩:=h1;have h4:=cY h4;refine⟨l.toNat,by rw[DD h2];exact e,by omega,h4,?_⟩;rcases h5 with h5|h5
  ·exact .inl (cY h5)
  ·exact .inr (DC h5)
 ·cases h1
def H5{st:St}{t:TypeId}{x i:Operand}{b8:ByteArray}{k:IntKind}{j b:Int}{ti:TI}(h1:st.ev x=some (.c (.V (.string b8))))(h2:st.ev i=some (.c (.I k j)))(h3:ao t eC=some ti)(h4:ti.kind= .str)(h5:Ae b8 j=some b):B5 eC st (.index t x i)=some (.c (.I .u8 b),.le 0 j):=by simp[B5,h1,h2,h3,h4,h5]
set_option maxHeartbeats 2000000 in
def ajK(a b:List Int)(ha:bV a)(hb:bV b)(la:a.length≤1099511627776)(lb:b.length≤1099511627776):aG Tryz.prog 175 [cS aE a,cS aE b] (cS aE (az (val a*val b).toNat)):=by
 refine aX Tryz.func175 ae ae ae ae ae ak ?_;refine rr ae (rb ?_);refine rm aE (a.length+b.length) ae ae ae ae ae ae (lU .u32) ae ?_ ?_ ?_
 ·show _*4≤_;omega
 ·show _*1≤_;omega
 refine re ae (aj (rr ae ?_));refine aH (bA (α:=Nat×List Int) (λx=>⟨[(0,cS aE a),(1,cS aE b),(5,.c (.X 1005000)),(18,cI a.length),(19,cI x.1)],[(1005000,.vec 23 aE x.2)],3,[]⟩) (Ri a b) (λx=>a.length-x.1) (0,List.replicate (a.length+b.length) 0) ?_ ?_ ?_)
 ·refine⟨bK _,by simp,sJ _,?_,by simp[wK,val]⟩;intro j _;simp only[aU,mU];split<;>rfl
 ·exact wk ⟨sR ae,sR ae,sR ae,sR ae,sR ae,ah⟩ ⟨bR ae,ah⟩
 ·rintro⟨i,o⟩ hO;have hlen:o.length=a.length+b.length:=hO.len;refine rr ae (aj ?_);refine ax ae (λh=>?_) (λh=>?_)
  ·have h:i<a.length:=by simpa using h
   have ga:=dd ha i;refine aC (ai (aj (aH (rr ae (rr ae (rr ae (aj (rr ae ?_))))))));have ea:IntKind.wrap .u64 (a.getD (i:Int).toNat 0)=a.getD i 0:=by rw[bu,wrap_u64 _ af af]
   refine aH (bA (α:=Nat×List Int×Int) (λx=>⟨[(0,cS aE a),(1,cS aE b),(5,.c (.X 1005000)),(6,cI i),(7,cU x.2.2),(8,cU (a.getD i 0)),(18,cI a.length),(19,cI i),(28,cI b.length),(29,cI x.1)],[(1005000,.vec 23 aE x.2.1)],8,[]⟩) (Cf a b i) (λx=>b.length-x.1) (0,o,0) ?_ ?_ ?_)
   ·refine⟨bK _,hlen,hO.r,hO.z,jB _,(by show(0:Int)<_;decide),?_⟩;have:=hO.v;simp only at this;simp[this,val]
   ·exact wk ⟨sR ae,sR ae,sR ae,sR ae,sR ae,⟨_,ae,au.of_eq (ay (λx=>AV.c (C.I .u64 x)) ea)⟩,sR ae,sR ae,sR ae,sR ae,ah⟩ ⟨bR ae,ah⟩
   ·rintro⟨k,o,c⟩ hI;have hlen:o.length=a.length+b.length:=hI.len;have nE:0≤c:=hI.c0;have lQ:c<4294967296:=hI.c1;refine rr ae (aj ?_);refine ax ae (λh2=>?_) (λh2=>?_)
    ·have h2:k<b.length:=by simpa using h2
     have gb:=dd hb k;have go:=dd hI.r (i+k);simp only at go;have gm:=HO ga.1 af gb.1 af;refine aC (ai (aj (aH (rr ae (rr ae ?_ (hp:=jT))))));have yv:((i:Int)+(k:Int)).toNat=i+k:=af;have e0:IntKind.wrap .u64 (IntKind.wrap .u64 (IntKind.wrap .u64 (a.getD i 0*IntKind.wrap .u64 (b.getD (k:Int).toNat 0))+IntKind.wrap .u64 (o.getD ((i:Int)+(k:Int)).toNat 0))+c)=a.getD i 0*b.getD k 0+o.getD (i+k) 0+c:=by rw[yv,bu,wrap_u64 (b.getD k 0) af af,wrap_u64 (o.getD (i+k) 0) af af,wrap_u64 (a.getD i 0*b.getD k 0) af af,wrap_u64 (a.getD i 0*b.getD k 0+o.getD (i+k) 0) af af,wrap_u64 _ af af]
     have hn:=hI.next h h2 ha hb;simp only at hn;generalize ht:a.getD i 0*b.getD k 0+o.getD (i+k) 0+c=s at hn e0;have e1:IntKind.wrap .u32 s=s%4294967296:=by simp[IntKind.wrap,IntKind.bits,IntKind.signed]
     have e2:s.fdiv (2^(min (32:Int).toNat (IntKind.bits .u64)))=s/4294967296:=by rw[Dt _ ak];rfl
     refine dy (st':=⟨[(0,cS aE a),(1,cS aE b),(5,.c (.X 1005000)),(6,cI i),(8,cU (a.getD i 0)),(9,cI k),(10,cU s),(18,cI a.length),(19,cI i),(28,cI b.length),(29,cI k)],[(1005000,.vec 23 aE o)],12,[]⟩) (wk ⟨sR ae,sR ae,sR ae,sR ae,sR ae,sR ae,sE ae ?_,sR ae,sR ae,sR ae,sR ae,ah⟩ ⟨bR ae,ah⟩) ?_
     ·exact ay (λx=>AV.c (C.I .u64 x)) e0
     refine rr ae (rt ae (a6 (ai (rt ae (a8 (k+1,o.set (i+k) (s%4294967296),s/4294967296) hn (by show b.length-(k+1)<b.length-k;omega) (wk ⟨sR ae,sR ae,sR ae,sR ae,sE ae ?_,sR ae,sR ae,sR ae,sR ae,sE ae ?_,ah⟩ ⟨bE ae ?_,ah⟩))))))
     ·exact ay (λx=>AV.c (C.I .u64 x)) e2
     ·rfl
     ·rw[e1,yv]
    ·have h2:¬k<b.length:=by simpa using h2
     have hk:k=b.length:=by have:=hI.k;simp only at this;omega
     subst hk;have hd:=hI.done h;have yv:((i:Int)+(b.length:Int)).toNat=i+b.length:=af;have e1:IntKind.wrap .u32 c=c:=wrap_u32 c nE lQ;refine bh (bt (bq (bp (ai (rt ae (a6 (ai (rt ae (a8 (i+1,o.set (i+b.length) c) hd oF (wk ⟨sR ae,sR ae,sR ae,sR ae,sE ae ?_,ah⟩ ⟨bE ae ?_,ah⟩))))))))))
     ·rfl
     ·rw[e1,yv]
  ·have h:¬i<a.length:=by simpa using h
   have hi:i=a.length:=by have:=hO.i;simp only at this;omega
   subst hi;refine bh (bt (bq (bp (ai (fY 1005000 ae ae ae (rb ?_))))));refine rc ae ae (xa _) (re ae (aF (aL ar ae (au.of_eq ?_))));have hv:=hO.v;simp only[iK]at hv;rw[qn hO.r];simp only[hv]
def Zh(m k:Nat)(hm:(az m).length≤1099511627776)(hk:(az k).length≤1099511627776):aG Tryz.prog 171 [cS aE (az m),cS aE (az k)] (cS aE (az (m+k))):=by have:=ajH (az m) (az k) (eK m) (eK k) hm hk;rw[ff,ff,show((m:Int)+(k:Int)).toNat=m+k by omega]at this;exact this
def RS(m k:Nat)(hm:(az m).length≤1099511627776)(hk:(az k).length≤1099511627776):aG Tryz.prog 175 [cS aE (az m),cS aE (az k)] (cS aE (az (m*k))):=by have:=ajK (az m) (az k) (eK m) (eK k) hm hk;rw[ff,ff,show((m:Int)*(k:Int)).toNat=m*k by rw[←gi];rfl]at this;exact this
def uu(a b:Int)(ha:Sm a)(hb:Sm b):aG Tryz.prog 105 [aZ a,aZ b] (aZ (a*b)):=by
 refine aX Tryz.func105 ae ae ae ae ae ak ?_;refine rr ae (rb ?_);refine rc ae ae (RS _ _ ha hb) (rc ae ae (pP _ _) (re ae (aF (aL ar ae (au.of_eq ?_)))));have e2:sg (bN a !=bN b) (a.natAbs*b.natAbs)=a*b:=by have ea:=vz a;have eb:=vz b;generalize a.natAbs=x at ea⊢;generalize b.natAbs=y at eb⊢;cases Rl:bN a<;>cases Rm:bN b<;>rw[Rl]at ea<;>rw[Rm]at eb<;>simp only[sg,cP,cV,mV]at ea eb<;>rw[←ea,←eb]<;>simp[sg]<;>grind
 exact ay aZ e2
def qN(n:Nat):Nat:=if n=0 then 0 else Nat.log2 n+1
set_option maxHeartbeats 2000000 in
def LU(n:Nat)(hn:n≤12):aG Tryz.prog 130 [cU n] (cI (qN n)):=by
 have vD:IntKind.wrap .u8 (n:Int)=(n:Int):=by simp[IntKind.wrap,IntKind.bits,IntKind.signed];omega
 have e8:Ae H4 (n:Int)=some ((qN n:Nat):Int):=by have:∀m:Fin 13,Ae H4 ((m:Nat):Int)=some ((qN m:Nat):Int):=wu;exact this ⟨n,by omega⟩
 have l4:qN n≤4:=by have:∀m:Fin 13,qN m≤4:=ak;exact this ⟨n,by omega⟩
 have RT:aG Tryz.prog 194 [cU n] (cI (qN n)):=by
  refine aX Tryz.func194 ae ae ae ae ae ak ?_;refine rr ae (aj (rr ae (ax ae (λh=>?_) (λ_=>aC (ai ?_)))))
  ·exfalso;have h:(4294967296:Int)≤(n:Int):=a9 h;omega
  refine aj (rr ae (ax ae (λh=>?_) (λ_=>aC (ai ?_))))
  ·exfalso;have h:(65536:Int)≤(n:Int):=a9 h;omega
  refine aj (rr ae (ax ae (λh=>?_) (λ_=>aC (ai ?_))))
  ·exfalso;have h:(256:Int)≤(n:Int):=a9 h;omega
  refine rb (rx (x:= .c (.I .u8 (qN n:Nat))) (pm:= .le 0 (IntKind.wrap .u8 (n:Int))) ae (H5 ae ae ae ae (by rw[vD];exact e8)) (by rw[vD];exact nU n) (hp:=aN) (re ae (hp:=aN) (aF (aL ar ae (au.of_eq (ay (λz=>AV.c (C.I .i64 z)) ?_))))));exact Br _
 refine aX Tryz.func130 ae ae ae ae ae ak ?_;refine rr ae (aj (ax ae (λh=>by cases h) (λ_=>aC (ai ?_))));exact rb (rc ae ae RT (re ae (aF (aL ar ae (au.refl _)))))
def ajL:∀n:Fin 13,∀j:Fin 4,IntKind.wrap .i64 ((BitVec.ofInt (IntKind.bits .i64) (((n:Nat):Int).fdiv (2^(min ((j:Nat):Int).toNat (IntKind.bits .i64))))&&& BitVec.ofInt (IntKind.bits .i64) 1).toNat:Int)=(((n:Nat)/2^(j:Nat)%2:Nat):Int):=ak
def ajM:∀n:Fin 13,qN n≤4∧(n:Nat)/2^qN n=0:=ak
def ajN(n j:Nat):n/2^j=2*(n/2^(j+1))+n/2^j%2:=by rw[jl,←WE];omega
set_option maxHeartbeats 2000000 in
def ajO(m n:Nat)(hm:m≤2)(hn:n≤12):aG Tryz.prog 174 [cS aE (az m),cI n] (cS aE (az (m^n))):=by
 refine aX Tryz.func174 ae ae ae ae ae ak ?_;have Ar:∀k,k≤12→m^k<18446744073709551616:=by intro k hk;have h1:m^k≤2^k:=GA hm k;have h2:2^k≤2^12:=jV ak hk;omega
 have hlen:∀k,k≤12→(az (m^k)).length≤1099511627776:=λk hk=>dF (Al (Ar k hk)) ak
 have H6:(az m).length≤1099511627776:=by have:=hlen 1 ak;simpa using this
 have hL:=ajM ⟨n,by omega⟩;simp only at hL;have ajP:aG Tryz.prog 130 [AV.c (num .u64 (n:Int)).1] (cI (qN n)):=by rw[show(AV.c (num .u64 (n:Int)).1)=cU (n:Int)from ay (λx=>AV.c (C.I .u64 x)) (wrap_u64 _ af af)];exact LU n hn
 refine rr ae (rb (rl aE [_] ae ae (re ae (aj (rb (rc ae ae ajP (re ae ?_)))))));refine aH (bA (α:=Nat) (λk=>⟨[(0,cS aE (az m)),(1,cI n),(5,cS aE (az (m^(n/2^k)))),(6,cI ((k:Int)-1))],[],3,[]⟩) (λk=>k≤qN n) (λk=>k) (qN n) (bD _) (wk ⟨sR ae,sR ae,sE ae ?_,sR ae,ah⟩ ah) ?_)
 ·rw[hL.2];rfl
 intro k hk;refine aj (rr ae ?_);refine ax ae (λh=>?_) (λh=>?_)
 ·have h:(k:Int)-1≥0:=by simpa using h
  obtain⟨j,rfl⟩:∃j,k=j+1:=⟨k-1,by omega⟩;have hle:n/2^(j+1)≤12:=dF (DI _ _) hn;have G4:n/2^j≤12:=dF (DI _ _) hn;have dh:=ajN n j;have ej:(((j+1:Nat):Int)-1)=(j:Int):=af;have esq:m^(n/2^(j+1))*m^(n/2^(j+1))=m^(2*(n/2^(j+1))):=by rw[←py];congr 1;omega
  have hp:=RS _ _ (hlen _ hle) (hlen _ hle);rw[esq]at hp;refine aC (ai (aj (aH (rb (rc ae ae hp (re ae ?_))))));rw[ej];have vj:=ajL ⟨n,by omega⟩ ⟨j,by omega⟩;simp only at vj;refine rr ae ?_;refine ax ae (λh2=>?_) (λh2=>?_)
  ·have h2:n/2^j%2=1:=by have h2:=eq_of_beq h2;rw[vj]at h2;omega
   have iN:=RS (m^(2*(n/2^(j+1)))) m (hlen _ af) H6;rw[←jl,show(2*(n/2^(j+1))).succ=n/2^j by omega]at iN;refine cK (rc ae ae iN (re ae (a6 (ai (rt ae (a8 j af po bY))))))
  ·have h2:n/2^j%2=0:=by
    rw[vj]at h2;have h2:¬((n/2^j%2:Nat):Int)=1:=λe=>by rw[e]at h2;cases h2
    omega
   refine aC (a6 (ai (rt ae (a8 j af po (wk ⟨sR ae,sR ae,sE ae ?_,sR ae,ah⟩ ah)))));rw[show 2*(n/2^(j+1))=n/2^j by omega]
 ·have h:¬((k:Int)-1≥0):=by simpa using h
  have:k=0:=af;subst this;refine bh (bt (bq (bp (ai (rr ae (aF (aL ar ae (au.of_eq ?_))))))));rw[xY,Nat.div_one]
def ajR(n:Nat)(hn:n≤12):aG Tryz.prog 104 [aZ 2,cI n] (.t [(true,av .z ((2^n:Nat):Int)),(false,[.I .i64 0])]):=by
 refine aX Tryz.func104 ae ae ae ae ae ak ?_;refine rr ae (aj (rb ?_));refine rg 8 ae ae (λh=>?_) (λh=>?_)
 ·exfalso;have h:(n:Int)<0:=cq;omega
 ·refine re ae (ax ae (λh2=>?_) (λh2=>?_))
  ·exfalso;have h2:(n:Int)>4096:=gY;omega
  ·refine aC (ai (rb ?_));refine rg 15 ae ae (λh3=>by simp[bN]at h3) (λh3=>?_);refine rc ae ae (ajO 2 n ak hn) (rc ae ae (pP _ _) (re ae (aF (aL ar ae (au.of_eq ?_)))));rfl
end Go.El
namespace Go.El
open Go Go.RowKit
def m9.fs{P:Program}{f:FuncId}{args:List AV}{E:TypeId}{T:ET}{xs:List T.den}(h:m9 P f args E T xs):aG P f args (.c (.S T xs)):=by
 refine⟨h.call,ae,λH W vs hs hv cs=>?_⟩;obtain⟨e,w',fr,⟨v,H',e1,jO,hle,lR,eL,Zi⟩,h2⟩:=h.spec H W vs hs hv cs;refine⟨e,w',fr,?_,h2⟩;rcases jO with⟨hγ,hx⟩|⟨b,cap,us,hγ,hh,kS,rK,hlen,hr,hN,hz⟩
 ·subst hx;refine⟨v,H',e1,?_,hle,lR,eL,Zi⟩;have hγ:v= .slice none 0 0:=hγ;exact⟨none,0,hγ,by simp,by simp,.inl ae⟩
 ·have hγ:v= .slice (some ⟨b,0,none⟩) xs.length cap:=hγ;have ud:cF H' (λb' o=>if b'=b then(if o<xs.length*T.n then us[o]? else none)else H' b' o):=by
   intro b' o v hv;by_cases e:b'=b
   ·subst e;have:H' b' o=none:=hz o;rw[this]at hv;cases hv
   ·simp[e,hv]
  refine⟨v,λb' o=>if b'=b then(if o<xs.length*T.n then us[o]? else none)else H' b' o,e1,?_,cF.trans hle ud,?_,?_,Zi⟩
  ·refine⟨some ⟨b,0,none⟩,cap,hγ,rK,hlen,?_⟩;by_cases hx:xs=[]
   ·exact .inl hx
   ·refine .inr ⟨b,0,ae,λk hk=>⟨(us.drop (k*T.n)).take T.n,dm.length T _ _ (hr k hk),dm.mono ud T _ _ (hr k hk),λj hj=>?_⟩⟩;have dR:(k+1)*T.n≤cap*T.n:=eJ _ af;have Er:(k+1)*T.n≤xs.length*T.n:=eJ _ af;rw[fV,jb]at dR Er;simp only[fI,DH]at hj;have br:k*T.n+j<xs.length*T.n:=af;simp only[cP,eZ,uW,wF,br];exact cr af
  ·intro b' o du;have hb:W.heap.size≤b:=hN;have:b'≠b:=af;simp only[this,cV];exact lR b' o du
  ·intro b' o u hv;by_cases e:b'=b
   ·subst e;simp only[cP]at hv;split at hv
    ·simp[World.cell?,hh,hv]
    ·cases hv
   ·simp only[e,cV]at hv;exact eL b' o u hv
def Zj{P:Program}{n:Nat}{x y:Code}{st:St}{Q:fG}{α:Type}(stM:α→St)(φ:α→Prop)(H7:∀m,φ m→TR P n y (stM m) Q)(h:(∀m,φ m→gq n .normal (stM m) (z8 P y Q))→TR P n x st (z8 P y Q)):TR P n (.seq x y) st Q:=
 aj (h λm hm=>ai (H7 m hm))
def yB{P:Program}{n:Nat}{x y:Code}{st:St}{Q:fG}(st1:St)(H7:TR P n y st1 Q)(h:gq n .normal st1 (z8 P y Q)→TR P n x st (z8 P y Q)):TR P n (.seq x y) st Q:=
 aj (h (ai H7))
def nG{n:Nat}{e:Exit}{st st':St}{Q:fG}(h:gq n e st' Q)(hw:Wk st st'):gq n e st Q:=Qy hw h
end Go.El
namespace Go.El
open Go Go.Proofs
def Ci(x c:Int)(s:Nat)(hx:0≤x)(hd:x%2^s=0)(hc:0≤c)(dQ:c<2^s)(h:x+c<18446744073709551616):
  IntKind.wrap .u64 ((BitVec.ofInt (IntKind.bits .u64) x|||BitVec.ofInt (IntKind.bits .u64) c).toNat:Int)=x+c:=by
 obtain⟨X,rfl⟩:=Dw hx
 obtain⟨C,rfl⟩:=Dw hc
 have e1:((X:Int)%2^s)=((X%2^s:Nat):Int):=be
 rw[e1]at hd
 have hd:X%2^s=0:=af
 have dQ:C<2^s:=by
  have:((C:Nat):Int)<((2^s:Nat):Int):=by rw[uX];exact dQ
  omega
 have e2:(BitVec.ofInt (IntKind.bits .u64) (X:Int)|||BitVec.ofInt (IntKind.bits .u64) (C:Int)).toNat=X+C:=by
  rw[Pn,Pn,BitVec.toNat_or,Pq,Pq,show IntKind.bits .u64=64 from ae,rD af,rD af];have e3:X=2^s*(X/2^s):=by have:=xU X (2^s);omega
  rw[e3,←Nat.two_pow_add_eq_or_of_lt dQ]
 rw[e2,wrap_u64 _ af af];omega
def As(x:Int)(s:Nat)(h0:0≤x)(hs:s≤64)(h:x*2^s<18446744073709551616):IntKind.wrap .u64 (x*2^(min ((s:Nat):Int).toNat (IntKind.bits .u64)))=x*2^s:=by rw[bu,show min s (IntKind.bits .u64)=s from tN hs,wrap_u64 _ (jX h0 (Int.pow_nonneg ak)) h]
def At(x:Int)(s:Nat)(hs:s≤64):x.fdiv (2^(min ((s:Nat):Int).toNat (IntKind.bits .u64)))=x/2^s:=by rw[bu,show min s (IntKind.bits .u64)=s from tN hs,Dt _ (Int.pow_nonneg ak)]
def Zk(x:Int)(s:Nat)(hs:s≤32):x.fdiv (2^(min ((s:Nat):Int).toNat (IntKind.bits .u32)))=x/2^s:=by rw[bu,show min s (IntKind.bits .u32)=s from tN hs,Dt _ (Int.pow_nonneg ak)]
def ajS(x:Nat)(h0:0<x)(hx:x<4294967296):∃l:Nat,aG Tryz.prog 193 [cW x] (cI l)∧l≤32∧1≤l∧x<2^l∧2^l≤2*x:=by
 have tail:∀(y n:Nat),y<256→n≤24→∃l:Nat,l≤8∧y<2^l∧(2^l≤2*y∨y=0)∧Ae H4 (y:Int)=some (l:Int):=by intro y n hy _;obtain⟨l,e,h1,h2,h3⟩:=Zg hy;exact⟨l,h1,h2,h3,e⟩
 obtain⟨y,n,hn,hy,ex⟩:∃y n:Nat,(n=0∧y=x∧x<256∨n=8∧y=x/256∧256≤x∧x<65536∨n=16∧y=x/65536∧65536≤x∧x<16777216∨n=24∧y=x/65536/256∧16777216≤x)∧y<256∧0<y:=by
  by_cases a1:x<256
  ·exact⟨x,0,.inl ⟨ae,ae,a1⟩,a1,h0⟩
  ·by_cases a2:x<65536
   ·exact⟨x/256,8,.inr (.inl ⟨ae,ae,by omega,a2⟩),by omega,by omega⟩
   ·by_cases a3:x<16777216
    ·exact⟨x/65536,16,.inr (.inr (.inl ⟨ae,ae,by omega,a3⟩)),by omega,by omega⟩
    ·exact⟨x/65536/256,24,.inr (.inr (.inr ⟨ae,ae,by omega⟩)),by omega,by omega⟩
 obtain⟨l,el,h1,h2,h3⟩:=Zg hy;have h3:2^l≤2*y:=af;have l1:1≤l:=by
  by_cases e:l=0
  ·subst e;simp at h2;omega
  ·omega
 refine⟨n+l,?_,by omega,by omega,?_,?_⟩
 ·have LV:(x:Int).fdiv (2^(min ((16:Nat):Int).toNat (IntKind.bits .u32)))=((x/65536:Nat):Int):=by rw[Zk _ _ af];omega
  have Zl:∀z:Nat,(z:Int).fdiv (2^(min ((8:Nat):Int).toNat (IntKind.bits .u32)))=((z/256:Nat):Int):=λz=>by rw[Zk _ _ af];omega
  have vD:∀z:Nat,z<256→IntKind.wrap .u8 (z:Int)=(z:Int):=λz hz=>by simp[IntKind.wrap,IntKind.bits,IntKind.signed];omega
  refine aX Tryz.func193 ae ae ae ae ae ak ?_;refine rr ae (aj (rr ae ?_));refine ax ae (λc1=>?_) (λc1=>?_)
  ·have c1:65536≤x:=by have c1:(65536:Int)≤(x:Int):=a9 c1;omega
   refine rr ae (hp:=aN) (rt ae (ai (aj (rr ae ?_))));refine ax ae (λc2=>?_) (λc2=>?_)
   ·have c2:256≤x/65536:=by have c2:(256:Int)≤(x:Int).fdiv (2^(min ((16:Nat):Int).toNat (IntKind.bits .u32))):=a9 c2;rw[LV]at c2;omega
    refine rr ae (hp:=aN) (rt ae (hp:=aN) (ai ?_));refine dy (st':=⟨[(0,cW y),(2,cI n)],[],9,[]⟩) (wk ⟨⟨_,ae,au.of_eq (ay (λz=>AV.c (C.I .u32 z)) (by show Int.fdiv (Int.fdiv (x:Int) (2^(min ((16:Nat):Int).toNat (IntKind.bits .u32)))) (2^(min ((8:Nat):Int).toNat (IntKind.bits .u32)))=_;rw[LV,Zl];omega))⟩,⟨_,ae,au.of_eq (ay (λz=>AV.c (C.I .i64 z)) af)⟩,ah⟩ ah) ?_;refine rb (rx (x:= .c (.I .u8 l)) (pm:= .le 0 (IntKind.wrap .u8 (y:Int))) ae (H5 ae ae ae ae O8) O9 (hp:=aN) (re ae (hp:=aN) (aF (aL ar ae (au.of_eq (ay (λz=>AV.c (C.I .i64 z)) ?_))))));show(n:Int)+(l:Int)=((n+l:Nat):Int);omega
   ·have c2:x/65536<256:=by have c2:¬(256:Int)≤(x:Int).fdiv (2^(min ((16:Nat):Int).toNat (IntKind.bits .u32))):=bC c2;rw[LV]at c2;omega
    refine aC (ai ?_);refine dy (st':=⟨[(0,cW y),(2,cI n)],[],5,[]⟩) (wk ⟨⟨_,ae,au.of_eq (ay (λz=>AV.c (C.I .u32 z)) (by show Int.fdiv (x:Int) (2^(min ((16:Nat):Int).toNat (IntKind.bits .u32)))=_;rw[LV];omega))⟩,⟨_,ae,au.of_eq (ay (λz=>AV.c (C.I .i64 z)) af)⟩,ah⟩ ah) ?_;refine rb (rx (x:= .c (.I .u8 l)) (pm:= .le 0 (IntKind.wrap .u8 (y:Int))) ae (H5 ae ae ae ae O8) O9 (hp:=aN) (re ae (hp:=aN) (aF (aL ar ae (au.of_eq (ay (λz=>AV.c (C.I .i64 z)) ?_))))));show(n:Int)+(l:Int)=((n+l:Nat):Int);omega
  ·have c1:x<65536:=by have c1:¬(65536:Int)≤(x:Int):=bC c1;omega
   refine aC (ai (aj (rr ae ?_)));refine ax ae (λc2=>?_) (λc2=>?_)
   ·have c2:256≤x:=by have c2:(256:Int)≤(x:Int):=a9 c2;omega
    refine rr ae (hp:=aN) (rt ae (hp:=aN) (ai ?_));refine dy (st':=⟨[(0,cW y),(2,cI n)],[],5,[]⟩) (wk ⟨⟨_,ae,au.of_eq (ay (λz=>AV.c (C.I .u32 z)) (by show Int.fdiv (x:Int) (2^(min ((8:Nat):Int).toNat (IntKind.bits .u32)))=_;rw[Zl];omega))⟩,⟨_,ae,au.of_eq (ay (λz=>AV.c (C.I .i64 z)) af)⟩,ah⟩ ah) ?_;refine rb (rx (x:= .c (.I .u8 l)) (pm:= .le 0 (IntKind.wrap .u8 (y:Int))) ae (H5 ae ae ae ae O8) O9 (hp:=aN) (re ae (hp:=aN) (aF (aL ar ae (au.of_eq (ay (λz=>AV.c (C.I .i64 z)) ?_))))));show(n:Int)+(l:Int)=((n+l:Nat):Int);omega
   ·have c2:x<256:=by have c2:¬(256:Int)≤(x:Int):=bC c2;omega
    refine aC (ai ?_);refine dy (st':=⟨[(0,cW y),(2,cI n)],[],3,[]⟩) (wk ⟨⟨_,ae,au.of_eq (ay (λz=>AV.c (C.I .u32 z)) (show(x:Int)=(y:Int)by omega))⟩,⟨_,ae,au.of_eq (ay (λz=>AV.c (C.I .i64 z)) af)⟩,ah⟩ ah) ?_;refine rb (rx (x:= .c (.I .u8 l)) (pm:= .le 0 (IntKind.wrap .u8 (y:Int))) ae (H5 ae ae ae ae O8) O9 (hp:=aN) (re ae (hp:=aN) (aF (aL ar ae (au.of_eq (ay (λz=>AV.c (C.I .i64 z)) ?_))))));show(n:Int)+(l:Int)=((n+l:Nat):Int);omega
 ·rcases hn with⟨e1,e2,a⟩|⟨e1,e2,a⟩|⟨e1,e2,a⟩|⟨e1,e2,a⟩
  ·subst e1 e2;simpa using h2
  ·subst e1;rw[py];omega
  ·subst e1;rw[py];omega
  ·subst e1;rw[py];omega
 ·rcases hn with⟨e1,e2,a⟩|⟨e1,e2,a⟩|⟨e1,e2,a⟩|⟨e1,e2,a⟩
  ·subst e1 e2;simpa using h3
  ·subst e1;rw[py];omega
  ·subst e1;rw[py];omega
  ·subst e1;rw[py];omega
def ajT(x:Nat)(h0:0<x)(hx:x<4294967296):∃s:Nat,aG Tryz.prog 274 [cW x] (cI s)∧s≤31∧2147483648≤x*2^s∧x*2^s<4294967296:=by
 obtain⟨l,hf,h1,h2,h3,h4⟩:=ajS x h0 hx;have e:2^l*2^(32-l)=4294967296:=by rw[←py,show l+(32-l)=32 by omega]
 have hp:0<2^(32-l):=nr ak;have a1:x*2^(32-l)<2^l*2^(32-l):=Wz h3 hp;have a2:2^l*2^(32-l)≤2*x*2^(32-l):=eJ _ h4;rw[zC]at a2;refine⟨32-l,?_,by omega,by omega,by omega⟩;refine aX Tryz.func274 ae ae ae ae ae ak ?_;refine rr ae (rb (rc ae ae hf (re ae (hp:=aN) (aF (aL ar ae (au.of_eq (ay (λz=>AV.c (C.I .i64 z)) ?_)))))));show(32:Int)-(l:Int)=((32-l:Nat):Int);omega
set_option maxHeartbeats 1000000 in
def ajU(a:List Int)(d:Int)(ha:bV a)(vA:0<d)(hd:d<4294967296)(la:a.length≤1099511627776):aG Tryz.prog 273 [cS aE a,cU d] (.t [(false,[.S aE (az (val a/d).toNat)]),(false,[.I .u64 (val a%d)])]):=by
 refine aX Tryz.func273 ae ae ae ae ae ak ?_;refine rr ae (rb ?_);refine rm aE a.length ae ae ae ae ae ae (lU .u32) ae ?_ ?_ ?_
 ·show _*4≤_;omega
 ·show _*1≤_;omega
 refine re ae (rr ae (aj (rr ae ?_)));refine aH (bA (α:=Nat×List Int×Int) (λx=>⟨[(0,cS aE a),(1,cU d),(6,.c (.X 1002000)),(7,cU x.2.2),(8,cI ((x.1:Int)-1))],[(1002000,.vec 23 aE x.2.1)],4,[]⟩) (EI a d) (λx=>x.1) (a.length,List.replicate a.length 0,0) ?_ bY ?_)
 ·exact⟨bD _,by simp,sJ _,jB _,vA,by simp[val]⟩
 ·rintro⟨k,q,r⟩ hI;have hlen:q.length=a.length:=hI.len;have h0:0≤r:=hI.r0;have h1:r<d:=hI.r1;have hk:k≤a.length:=hI.k;refine aj (rr ae ?_);refine ax ae (λh=>?_) (λh=>?_)
  ·have h:(k:Int)-1≥0:=by simpa using h
   obtain⟨j,rfl⟩:∃j,k=j+1:=⟨k-1,by omega⟩;have ej:(((j+1:Nat):Int)-1).toNat=j:=af;have g:=dd ha j;have hb:=LH h0 h1 g.1 g.2 hd;have hn:=hI.next ha hd;refine aC (ai (aj (aH (rr ae (hp:=aN) ?_))));have e0:IntKind.wrap .u64 ((BitVec.ofInt (IntKind.bits .u64) (IntKind.wrap .u64 (r*2^(min ((32:Nat):Int).toNat (IntKind.bits .u64))))|||BitVec.ofInt (IntKind.bits .u64) (IntKind.wrap .u64 (a.getD (((j+1:Nat):Int)-1).toNat 0))).toNat:Int)=r*4294967296+a.getD j 0:=by rw[ej,As r 32 h0 af af,wrap_u64 (a.getD j 0) af af,Ci (r*2^32) (a.getD j 0) 32 af (GD _ _) af af af,show(2:Int)^32=4294967296 from ae]
   generalize ht:r*4294967296+a.getD j 0=s at hn hb e0;have e1:IntKind.wrap .u32 (IntKind.wrap .u64 (s.tdiv d))=s/d:=by rw[Be af,wrap_u64 _ af af,wrap_u32 _ af af]
   have e2:s.tmod d=s%d:=rB af;refine dy (st':=⟨[(0,cS aE a),(1,cU d),(6,.c (.X 1002000)),(8,cI (((j+1:Nat):Int)-1)),(9,cU s)],[(1002000,.vec 23 aE q)],6,[]⟩) (wk ⟨sR ae,sR ae,sR ae,sR ae,sE ae ?_,ah⟩ ⟨bR ae,ah⟩) ?_
   ·exact ay (λz=>AV.c (C.I .u64 z)) e0
   refine rr ae (rt ae (a6 (ai (rt ae (a8 (j,q.set j (s/d),s%d) hn po (wk ⟨sR ae,sR ae,sR ae,sE ae ?_,sE ae ?_,ah⟩ ⟨bE ae ?_,ah⟩))))))
   ·exact ay (λz=>AV.c (C.I .u64 z)) e2
   ·refine ay (λz=>AV.c (C.I .i64 z)) ?_;show((j+1:Nat):Int)-1-1=(j:Int)-1;omega
   ·rw[e1,ej]
  ·have h:¬((k:Int)-1≥0):=by simpa using h
   have:k=0:=af;subst this;refine bh (bt (bq (bp (ai (fY 1002000 ae ae ae (rb ?_))))));refine rc ae ae (xa _) (re ae (aF (aL ar ae (au.of_eq ?_))));have hv:val a=val q*d+r:=hI.v;have hr:bV q:=hI.r;have eq:val a/d=val q:=by rw[hv,xX,DA _ _ af,Gy h0 h1];omega
   have er:val a%d=r:=by rw[hv,xX,Wy,iZ h0 h1]
   rw[qn hr,eq,er];rfl
def ajV{a:List Int}(ha:bV a)(s i:Nat):0≤val (a.take i)*2^s/4294967296^i∧val (a.take i)*2^s/4294967296^i<2^s:=by have h1:=mz (jY ha i);have h2:=nX (jY ha i);have h3:=vb (m:=(a.take i).length) (n:=i) cT;have h4:=jZ i;have h5:(0:Int)<2^s:=sI ak;refine⟨xS (jX h1 af) af,DB h4 ?_⟩;rw[fh];exact Int.mul_lt_mul_of_pos_left af h5
def ajW(a:List Int)(s i:Nat):
  bZ (i+1) (val (a.take (i+1))*2^s)=bZ i (val (a.take i)*2^s)++[(a.getD i 0*2^s+val (a.take i)*2^s/4294967296^i)%4294967296]∧
  val (a.take (i+1))*2^s/4294967296^(i+1)=(a.getD i 0*2^s+val (a.take i)*2^s/4294967296^i)/4294967296:=by
 have h4:=jZ i
 have e:val (a.take (i+1))*2^s=val (a.take i)*2^s+a.getD i 0*2^s*4294967296^i:=by rw[lh,lK,ke,fh (4294967296^i),←ke]
 have e2:val (a.take (i+1))*2^s/4294967296^i=a.getD i 0*2^s+val (a.take i)*2^s/4294967296^i:=by rw[e,DA _ _ af,xX]
 refine⟨?_,by rw[LJ,e2]⟩
 rw[EL,e2,e,RA]
def LW(xs:List Int)(n:Nat)(w:Int):(xs++List.replicate (n+1) 0).set xs.length w=(xs++[w])++List.replicate n 0:=by rw[qi _ _ (bD _),iw,wC,DF,np];rfl
set_option maxHeartbeats 2000000 in
def Zm(a:List Int)(s:Nat)(ha:bV a)(hs:s≤31)(la:a.length≤1099511627776):m9 Tryz.prog 275 [cS aE a,cI s] 23 aE (bZ (a.length+1) (val a*2^s)):=by
 refine Af Tryz.func275 ae ae ae ae ak ?_;have iN:(2:Int)^s≤2^31:=by have:=jV (show 2>0 by decide) hs;have e1:(2:Int)^s=((2^s:Nat):Int):=be;omega
 have jo:(0:Int)<2^s:=sI ak;refine rr ae (rb ?_);refine rm aE (a.length+1) ae ae ae ae ae ae (lU .u32) ae ?_ ?_ ?_
 ·show _*4≤_;omega
 ·show _*1≤_;omega
 refine re ae (rr ae (aj (rr ae ?_)));refine aH (bA (α:=Nat) (λi=>⟨[(0,cS aE a),(1,cI s),(5,.c (.X 1003000)),(6,cU (val (a.take i)*2^s/4294967296^i)),(14,cI a.length),(15,cI i)],[(1003000,.vec 23 aE (bZ i (val (a.take i)*2^s)++List.replicate (a.length+1-i) 0))],4,[]⟩) (λi=>i≤a.length) (λi=>a.length-i) 0 (bK _) (wk ⟨sR ae,sR ae,sR ae,sE ae ?_,sR ae,sR ae,ah⟩ ⟨bE ae ?_,ah⟩) ?_)
 ·simp[val];rfl
 ·simp[bZ]
 intro i hi;have hc:=ajV ha s i;have fe:=ajW a s i;have m6:(bZ i (val (a.take i)*2^s)).length=i:=uj _ _;generalize wP:val (a.take i)*2^s/4294967296^i=c at hc fe;refine rr ae (aj ?_);refine ax ae (λh=>?_) (λh=>?_)
 ·have h:i<a.length:=by simpa using h
  have g:=dd ha i;have ju:0≤a.getD i 0*2^s:=jX g.1 af;have qE:a.getD i 0*2^s≤4294967295*2^31:=Bo af iN af ak;refine aC (ai (aj (aH (rr ae (rr ae (hp:=aN) ?_)))));have e0:IntKind.wrap .u64 ((BitVec.ofInt (IntKind.bits .u64) (IntKind.wrap .u64 (IntKind.wrap .u64 (a.getD (i:Int).toNat 0)*2^(min ((s:Nat):Int).toNat (IntKind.bits .u64))))|||BitVec.ofInt (IntKind.bits .u64) c).toNat:Int)=a.getD i 0*2^s+c:=by rw[bu i,wrap_u64 (a.getD i 0) af af,As _ s g.1 af af,Ci _ c s ju (GD _ _) hc.1 hc.2 af]
  generalize ht:a.getD i 0*2^s+c=t at*;refine dy (st':=⟨[(0,cS aE a),(1,cI s),(5,.c (.X 1003000)),(7,cI i),(8,cU t),(14,cI a.length),(15,cI i)],[(1003000,.vec 23 aE (bZ i (val (a.take i)*2^s)++List.replicate (a.length+1-i) 0))],7,[]⟩) (wk ⟨sR ae,sR ae,sR ae,sR ae,sE ae ?_,sR ae,sR ae,ah⟩ ⟨bR ae,ah⟩) ?_
  ·exact ay (λz=>AV.c (C.I .u64 z)) e0
  have kF:(bZ i (val (a.take i)*2^s)++List.replicate (a.length+1-i) (0:Int)).length=a.length+1:=by rw[kA,m6,jy];omega
  refine rr ae (hp:=aN) (rt ae (hp:=aN) (a6 (ai (rt ae (a8 (i+1) h oF (wk ⟨sR ae,sR ae,sR ae,sE ae ?_,sR ae,sR ae,ah⟩ ⟨bE ae ?_,ah⟩))))))
  ·refine ay (λz=>AV.c (C.I .u64 z)) ?_;rw[fe.2];exact At t 32 af
  ·refine ay (aK.vec 23 aE) ?_;have e1:IntKind.wrap .u32 t=t%4294967296:=O6;have e2:=LW (bZ i (val (a.take i)*2^s)) (a.length-i) (t%4294967296);rw[m6,show a.length-i+1=a.length+1-i by omega]at e2;rw[e1,bu,e2,fe.1,show a.length-i=a.length+1-(i+1)by omega]
 ·have h:¬i<a.length:=by simpa using h
  have e:i=a.length:=af;subst e;have Au:c<4294967296:=af;have kF:(bZ a.length (val (a.take a.length)*2^s)++List.replicate (a.length+1-a.length) (0:Int)).length=a.length+1:=by rw[kA,m6,jy];omega
  refine bh (bt (bq (bp (ai (rr ae (hp:=aN) (rr ae ?_))))));refine dy (st':=⟨[(4,.c (.X 1003000))],[(1003000,.vec 23 aE (bZ (a.length+1) (val a*2^s)))],20,[]⟩) (wk ⟨sR ae,ah⟩ ⟨bE ae ?_,ah⟩) (aF (yu (id:=1003000) ar ae ae));refine ay (aK.vec 23 aE) ?_;have e2:=LW (bZ a.length (val (a.take a.length)*2^s)) 0 c;rw[m6]at e2;rw[wrap_u32 c hc.1 Au,bu,show a.length+1-a.length=0+1 by omega,e2,wD,kB,EL,iK];rw[iK]at wP;rw[wP,iZ hc.1 Au]
def ajX(t:Int)(s:Nat)(oc:0≤t)(ht:t<18446744073709551616)(hs:s≤31):
  IntKind.wrap .u64 ((BitVec.ofInt (IntKind.bits .u64) t&&& BitVec.ofInt (IntKind.bits .u64) (IntKind.wrap .u64 (IntKind.wrap .u64 (1*2^(min ((s:Nat):Int).toNat (IntKind.bits .u64)))-1))).toNat:Int)=t%2^s:=by
 have hp:2^s≤2^31:=jV ak hs
 have cL:0<2^s:=nr ak
 have e0:(2:Int)^s=((2^s:Nat):Int):=be
 obtain⟨T,rfl⟩:=Dw oc
 rw[As 1 s ak af af,ja,wrap_u64 (2^s-1) af af]
 have e1:(2:Int)^s-1=((2^s-1:Nat):Int):=af
 rw[e1,Pn,Pn,BitVec.toNat_and,Pq,Pq,show IntKind.bits .u64=64 from ae,rD af,rD af,Nat.and_two_pow_sub_one_eq_mod]
 have:=iy T cL
 rw[wrap_u64 _ af af,e0,GH]
set_option maxHeartbeats 1000000 in
def ajY(a:List Int)(s:Nat)(ha:bV a)(hs:s≤31)(la:a.length≤1099511627776):aG Tryz.prog 277 [cS aE a,cI s] (cS aE (az (val a/2^s).toNat)):=by
 refine aX Tryz.func277 ae ae ae ae ae ak ?_;have iN:(2:Int)^s≤2^31:=by have:=jV (show 2>0 by decide) hs;have e1:(2:Int)^s=((2^s:Nat):Int):=be;omega
 have vA:(0:Int)<2^s:=sI ak;refine rr ae (rb ?_);refine rm aE a.length ae ae ae ae ae ae (lU .u32) ae ?_ ?_ ?_
 ·show _*4≤_;omega
 ·show _*1≤_;omega
 refine re ae (rr ae (aj (rr ae ?_)));refine aH (bA (α:=Nat×List Int×Int) (λx=>⟨[(0,cS aE a),(1,cI s),(5,.c (.X 1002000)),(6,cU x.2.2),(7,cI ((x.1:Int)-1))],[(1002000,.vec 23 aE x.2.1)],4,[]⟩) (EI a (2^s)) (λx=>x.1) (a.length,List.replicate a.length 0,0) ?_ bY ?_)
 ·exact⟨bD _,by simp,sJ _,jB _,vA,by simp[val]⟩
 ·rintro⟨k,q,r⟩ hI;have hlen:q.length=a.length:=hI.len;have h0:0≤r:=hI.r0;have h1:r<2^s:=hI.r1;have hk:k≤a.length:=hI.k;refine aj (rr ae ?_);refine ax ae (λh=>?_) (λh=>?_)
  ·have h:(k:Int)-1≥0:=by simpa using h
   obtain⟨j,rfl⟩:∃j,k=j+1:=⟨k-1,by omega⟩;have ej:(((j+1:Nat):Int)-1).toNat=j:=af;have g:=dd ha j;have hb:=LH h0 h1 g.1 g.2 af;have hn:=hI.next ha af;refine aC (ai (aj (aH (rr ae (hp:=aN) ?_))));have e0:IntKind.wrap .u64 ((BitVec.ofInt (IntKind.bits .u64) (IntKind.wrap .u64 (r*2^(min ((32:Nat):Int).toNat (IntKind.bits .u64))))|||BitVec.ofInt (IntKind.bits .u64) (IntKind.wrap .u64 (a.getD (((j+1:Nat):Int)-1).toNat 0))).toNat:Int)=r*4294967296+a.getD j 0:=by rw[ej,As r 32 h0 af af,wrap_u64 (a.getD j 0) af af,Ci (r*2^32) (a.getD j 0) 32 af (GD _ _) af af af,show(2:Int)^32=4294967296 from ae]
   generalize ht:r*4294967296+a.getD j 0=t at hn hb e0;refine dy (st':=⟨[(0,cS aE a),(1,cI s),(5,.c (.X 1002000)),(7,cI (((j+1:Nat):Int)-1)),(8,cU t)],[(1002000,.vec 23 aE q)],6,[]⟩) (wk ⟨sR ae,sR ae,sR ae,sR ae,sE ae ?_,ah⟩ ⟨bR ae,ah⟩) ?_
   ·exact ay (λz=>AV.c (C.I .u64 z)) e0
   refine rr ae (hp:=aN) (rt ae (hp:=aN) (a6 (ai (rt ae (a8 (j,q.set j (t/2^s),t%2^s) hn po (wk ⟨sR ae,sR ae,sR ae,sE ae ?_,sE ae ?_,ah⟩ ⟨bE ae ?_,ah⟩))))))
   ·exact ay (λz=>AV.c (C.I .u64 z)) (ajX t s hb.1 hb.2.1 hs)
   ·refine ay (λz=>AV.c (C.I .i64 z)) ?_;show((j+1:Nat):Int)-1-1=(j:Int)-1;omega
   ·refine ay (aK.vec 23 aE) ?_;rw[At t s af,ej,wrap_u32 _ af af]
  ·have h:¬((k:Int)-1≥0):=by simpa using h
   have:k=0:=af;subst this;refine bh (bt (bq (bp (ai (fY 1002000 ae ae ae (rb ?_))))));refine rc ae ae (xa _) (re ae (aF (aL ar ae (au.of_eq ?_))));have hv:val a=val q*2^s+r:=hI.v;have hr:bV q:=hI.r;have eq:val a/2^s=val q:=by rw[hv,xX,DA _ _ af,Gy h0 h1];omega
   rw[qn hr,eq]
def rX(n:Int):IntKind.wrap .u64 n=n%18446744073709551616:=O6
def yC(n:Int):IntKind.wrap .u32 n=n%4294967296:=O6
def oU{x y:Int}(h:(x !=y)=true):x≠y:=cq
def oV{x y:Int}(h:(x !=y)=false):x=y:=cq
set_option maxHeartbeats 1000000 in
def ajZ(a b:List Int)(ha:bV a)(hb:bV b)(ca:can a)(cb:can b):aG Tryz.prog 172 [cS aE a,cS aE b] (cI (dz (val a) (val b))):=by
 refine aX Tryz.func172 ae ae ae ae ae ak (Aa 0 ae λRh=>Aa 1 ae λqH=>?_);simp only[ET.n,k9]at Rh qH;refine rr ae (aj (rr ae ?_));refine ax ae (λh=>?_) (λh=>?_)
 ·have h:a.length≠b.length:=by have h:=oU h;omega
  refine aj (rr ae ?_);refine ax ae (λh2=>?_) (λh2=>?_)
  ·have h2:a.length<b.length:=by have h2:(a.length:Int)<(b.length:Int):=a9 h2;omega
   refine rr ae (aF ?_);repeat(first|refine bS ?_|refine fq ?_|refine gU ?_)
   refine aL ar ae (au.of_eq ?_);rw[dz,aw (KR ha hb cb h2)];rfl
  ·have h2:¬a.length<b.length:=by have h2:¬(a.length:Int)<(b.length:Int):=bC h2;omega
   refine aC (ai ?_);refine rr ae (aF ?_);repeat(first|refine bS ?_|refine fq ?_|refine gU ?_)
   refine aL ar ae (au.of_eq ?_);have:=KR hb ha ca af;rw[dz,aq af,aw this];rfl
 ·have hl:a.length=b.length:=by have h:=oV h;omega
  refine aC (ai (aj (rr ae ?_)));refine aH (bA (α:=Nat) (λk=>⟨[(0,cS aE a),(1,cS aE b),(5,cI ((k:Int)-1))],[],3,[]⟩) (λk=>k≤a.length∧a.drop k=b.drop k) (λk=>k) a.length ⟨bD _,by simp[hl]⟩ bY ?_);rintro k ⟨hk,hd⟩;refine aj (rr ae ?_);refine ax ae (λh3=>?_) (λh3=>?_)
  ·simp at h3;obtain⟨j,rfl⟩:∃j,k=j+1:=⟨k-1,by omega⟩;have hj:(((j+1:Nat):Int)-1)=j:=af;have br:j<a.length:=af;rw[hj];refine aC (ai (aj (aH (rr ae ?_))));have ga:=dd ha j;have gb:=dd hb j;refine ax ae (λh4=>?_) (λh4=>?_)
   ·have h4:a.getD j 0≠b.getD j 0:=oU h4;refine aj (rr ae ?_);refine ax ae (λh5=>?_) (λh5=>?_)
    ·have h5:a.getD j 0<b.getD j 0:=a9 h5;refine rr ae (aF ?_);repeat(first|refine bS ?_|refine fq ?_|refine gU ?_)
     refine aL ar ae (au.of_eq ?_);rw[dz,aw (KS ha hb j hd hl br h5)];rfl
    ·have h5:¬a.getD j 0<b.getD j 0:=bC h5;refine aC (ai ?_);refine rr ae (aF ?_);repeat(first|refine bS ?_|refine fq ?_|refine gU ?_)
     refine aL ar ae (au.of_eq ?_);have:=KS hb ha j hd.symm hl.symm af af;rw[dz,aq af,aw this];rfl
   ·have e:a.getD j 0=b.getD j 0:=oV h4;refine aC (a6 (ai (rt ae (a8 j ⟨by omega,?_⟩ po bY))));have HK:j<b.length:=af;rw[oH br,oH HK,hd];simp only[aU,cr br,cr HK,DG]at e;rw[e]
  ·simp at h3;have:k=0:=af;subst this;refine bh (bt (bq (bp (ai ?_))));refine rr ae (aF ?_);repeat(first|refine bS ?_|refine fq ?_|refine gU ?_)
   refine aL ar ae (au.of_eq ?_);simp only[uY]at hd;rw[hd,dz,aq af,aq af];rfl
def EP(m k:Nat):aG Tryz.prog 172 [cS aE (az m),cS aE (az k)] (cI (dz m k)):=by have:=ajZ (az m) (az k) (eK m) (eK k) (u9 m) (u9 k);rw[ff,ff]at this;exact this
set_option maxHeartbeats 2000000 in
def aj0(a b:List Int)(ha:bV a)(hb:bV b)(hl:b.length≤a.length)(hle:val b≤val a)(la:a.length≤1099511627776):aG Tryz.prog 173 [cS aE a,cS aE b] (cS aE (az (val a-val b).toNat)):=by
 refine aX Tryz.func173 ae ae ae ae ae ak ?_;refine rr ae (rb ?_);refine rm aE a.length ae ae ae ae ae ae (lU .u32) ae ?_ ?_ ?_
 ·show _*4≤_;omega
 ·show _*1≤_;omega
 refine re ae (rr ae (aj (rr ae ?_)));generalize hM:a.length=M;refine aH (bA (α:=Nat×List Int×Int) (λx=>⟨[(0,cS aE a),(1,cS aE b),(5,.c (.X 1002000)),(6,cU x.2.2),(13,cI M),(14,cI x.1)],[(1002000,.vec 23 aE x.2.1)],4,[]⟩) (HN a b M) (λx=>M-x.1) (0,List.replicate M 0,0) ?_ ?_ ?_)
 ·refine⟨bK _,by simp,sJ M,?_,jB _,Kh,by simp[wK,val]⟩;intro j _;simp only[aU,mU];split<;>rfl
 ·exact bY
 ·rintro⟨i,o,c⟩ hI;have hlen:o.length=M:=hI.len;have nE:0≤c:=hI.c0;have lQ:c≤1:=hI.c1;have hi:i≤M:=hI.i;have ga:=dd ha i;have gb:=dd hb i;refine rr ae (aj ?_);refine ax ae (λh=>?_) (λh=>?_)
  ·have h:i<M:=by have h:(i:Int)<(M:Int):=a9 h;omega
   have hn:=hI.next h ha hb;simp only at hn;refine aC (ai (aj (aH (rr ae (rr ae (hp:=aN) ?_)))));refine aj (rr ae ?_);refine ax ae (λh2=>?_) (λh2=>?_)
   ·have h2:i<b.length:=by have h2:(i:Int)<(b.length:Int):=a9 h2;omega
    refine rt ae (hp:=aN) (ai ?_);have e0:IntKind.wrap .u64 (IntKind.wrap .u64 (IntKind.wrap .u64 (a.getD (i:Int).toNat 0)-c)-IntKind.wrap .u64 (b.getD (i:Int).toNat 0))=(a.getD i 0-b.getD i 0-c)%18446744073709551616:=by rw[bu,rX,rX,rX,rX];omega
    generalize hd:(a.getD i 0-b.getD i 0-c)%18446744073709551616=d at e0;refine dy (st':=⟨[(0,cS aE a),(1,cS aE b),(5,.c (.X 1002000)),(7,cI i),(8,cU d),(13,cI M),(14,cI i)],[(1002000,.vec 23 aE o)],20,[]⟩) (wk ⟨sR ae,sR ae,sR ae,sR ae,sE ae ?_,sR ae,sR ae,ah⟩ ⟨bR ae,ah⟩) ?_
    ·exact ay (λz=>AV.c (C.I .u64 z)) e0
    refine rr ae (hp:=aN) (rt ae (hp:=aN) (a6 (ai (rt ae (a8 (i+1,o.set i ((4294967296+a.getD i 0-b.getD i 0-c)%4294967296),1-(4294967296+a.getD i 0-b.getD i 0-c)/4294967296) hn Gp (wk ⟨sR ae,sR ae,sR ae,sE ae ?_,sR ae,sR ae,ah⟩ ⟨bE ae ?_,ah⟩))))))
    ·refine ay (λz=>AV.c (C.I .u64 z)) ?_;show d.fdiv (2^(min ((63:Nat):Int).toNat (IntKind.bits .u64)))=1-(4294967296+a.getD i 0-b.getD i 0-c)/4294967296;rw[At d 63 af];omega
    ·refine ay (aK.vec 23 aE) ?_;show o.set (i:Int).toNat (IntKind.wrap .u32 d)=o.set i ((4294967296+a.getD i 0-b.getD i 0-c)%4294967296);rw[bu,yC];exact ay (o.set i) af
   ·have h2:¬i<b.length:=by have h2:¬(i:Int)<(b.length:Int):=bC h2;omega
    have eB:b.getD i 0=0:=Wm;refine aC (ai ?_);have e0:IntKind.wrap .u64 (IntKind.wrap .u64 (a.getD (i:Int).toNat 0)-c)=(a.getD i 0-b.getD i 0-c)%18446744073709551616:=by rw[bu,rX,rX];omega
    generalize hd:(a.getD i 0-b.getD i 0-c)%18446744073709551616=d at e0;refine dy (st':=⟨[(0,cS aE a),(1,cS aE b),(5,.c (.X 1002000)),(7,cI i),(8,cU d),(13,cI M),(14,cI i)],[(1002000,.vec 23 aE o)],20,[]⟩) (wk ⟨sR ae,sR ae,sR ae,sR ae,sE ae ?_,sR ae,sR ae,ah⟩ ⟨bR ae,ah⟩) ?_
    ·exact ay (λz=>AV.c (C.I .u64 z)) e0
    refine rr ae (hp:=aN) (rt ae (hp:=aN) (a6 (ai (rt ae (a8 (i+1,o.set i ((4294967296+a.getD i 0-b.getD i 0-c)%4294967296),1-(4294967296+a.getD i 0-b.getD i 0-c)/4294967296) hn Gp (wk ⟨sR ae,sR ae,sR ae,sE ae ?_,sR ae,sR ae,ah⟩ ⟨bE ae ?_,ah⟩))))))
    ·refine ay (λz=>AV.c (C.I .u64 z)) ?_;show d.fdiv (2^(min ((63:Nat):Int).toNat (IntKind.bits .u64)))=1-(4294967296+a.getD i 0-b.getD i 0-c)/4294967296;rw[At d 63 af];omega
    ·refine ay (aK.vec 23 aE) ?_;show o.set (i:Int).toNat (IntKind.wrap .u32 d)=o.set i ((4294967296+a.getD i 0-b.getD i 0-c)%4294967296);rw[bu,yC];exact ay (o.set i) af
  ·have h:¬i<M:=by have h:¬(i:Int)<(M:Int):=bC h;omega
   have hi:i=M:=af;subst hi;refine bh (bt (bq (bp (ai (fY 1002000 ae ae ae (rb ?_))))));refine rc ae ae (xa _) (re ae (aF (aL ar ae (au.of_eq ?_))));have hr:bV o:=hI.r;have hv:val o-c*4294967296^i=val (a.take i)-val (b.take i):=hI.v;rw[nv a i af,nv b i af]at hv;have hc:c=0:=by
    have h1:=nX hr;rw[hlen]at h1;have h2:=jZ i;rcases(show c=0∨c=1 by omega)with e|e
    ·exact e
    ·subst e;omega
   subst hc;rw[qn hr,←hv];simp
def RU(m k:Nat)(h:k≤m)(hm:(az m).length≤1099511627776):aG Tryz.prog 173 [cS aE (az m),cS aE (az k)] (cS aE (az (m-k))):=by have:=aj0 (az m) (az k) (eK m) (eK k) (te h) (by rw[ff,ff];omega) hm;rw[ff,ff,show((m:Int)-(k:Int)).toNat=m-k by omega]at this;exact this
def Zn(na nb:Bool)(m k:Nat)(hm:(az m).length≤1099511627776)(hk:(az k).length≤1099511627776):aG Tryz.prog 103 [.a [.B na,.S aE (az m)],.a [.B nb,.S aE (az k)]] (aZ (sg na m+sg nb k)):=by
 refine aX Tryz.func103 ae ae ae ae ae ak ?_;refine rr ae (aj (rr ae ?_));refine ax ae (λh=>?_) (λh=>?_)
 ·have h:na=nb:=eq_of_beq h;subst h;refine rb (rc ae ae (Zh _ _ hm hk) (rc ae ae (pP _ _) (re ae (aF (bS (aL ar ae (au.of_eq ?_)))))));have e2:sg na (m+k)=sg na m+sg na k:=by unfold sg;split<;>omega
  exact ay aZ e2
 ·have h:na≠nb:=λe=>by subst e;simp at h
  refine aC (ai (aj (rb (rc ae ae (EP _ _) (re ae ?_)))));refine ax ae (λh2=>?_) (λh2=>?_)
  ·have h2:k≤m:=by have h2:dz (m:Int) (k:Int)≥0:=a9 h2;unfold dz at h2;split at h2<;>omega
   refine rb (rc ae ae (RU _ _ h2 hm) (rc ae ae (pP _ _) (re ae (aF (bS (aL ar ae (au.of_eq ?_)))))));have e2:sg na (m-k)=sg na m+sg nb k:=by unfold sg;cases na<;>cases nb<;>simp at h⊢<;>omega
   exact ay aZ e2
  ·have h2:m≤k:=by
    have h2:¬dz (m:Int) (k:Int)≥0:=bC h2;unfold dz at h2;split at h2
    ·omega
    ·split at h2<;>omega
   refine aC (ai (rb (rc ae ae (RU _ _ h2 hk) (rc ae ae (pP _ _) (re ae (aF (aL ar ae (au.of_eq ?_))))))));have e2:sg nb (k-m)=sg na m+sg nb k:=by unfold sg;cases na<;>cases nb<;>simp at h⊢<;>omega
   exact ay aZ e2
def Av(a b:Int)(ha:Sm a)(hb:Sm b):aG Tryz.prog 103 [aZ a,aZ b] (aZ (a+b)):=by have h:=Zn (bN a) (bN b) a.natAbs b.natAbs ha hb;rw[vz,vz]at h;exact h
def RV(a b:Int)(ha:Sm a)(hb:Sm b):aG Tryz.prog 163 [aZ a,aZ b] (aZ (a-b)):=by
 refine aX Tryz.func163 ae ae ae ae ae ak ?_;have h:=Zn (bN a) (!bN b) a.natAbs b.natAbs ha hb;have e:sg (bN a) a.natAbs+sg (!bN b) b.natAbs=a-b:=by rw[vz];unfold sg bN;by_cases h:b<0<;>simp[h]<;>omega
 rw[e]at h;exact rr ae (rb (rc ae ae h (re ae (aF (aL ar ae (au.refl _))))))
def LX(a b:Int):aG Tryz.prog 149 [aZ a,aZ b] (cI (dz a b)):=by
 refine aX Tryz.func149 ae ae ae ae ae ak ?_;refine rr ae (rb (rc ae ae (Aq a) (rc ae ae (Aq b) (re ae ?_))));refine aj (rr ae (ax ae (λh=>?_) (λh=>?_)))
 ·have h:=oU h;refine aj (rr ae (ax ae (λh2=>?_) (λh2=>?_)))
  ·have h2:cN a<cN b:=a9 h2;refine rr ae (aF (bS (bS (aL ar ae (au.of_eq (ay (λz=>AV.c (C.I .i64 z)) ?_))))));unfold cN at h2;unfold dz;rw[aw];split at h2<;>split at h2<;>(try split at h2)<;>(try split at h2)<;>omega
  ·have h2:¬cN a<cN b:=bC h2;refine aC (ai (rr ae (aF (bS (aL ar ae (au.of_eq (ay (λz=>AV.c (C.I .i64 z)) ?_)))))));unfold cN at h h2;unfold dz;have:b<a:=by split at h<;>split at h<;>(try split at h)<;>(try split at h)<;>simp_all<;>omega
   rw[aq af,aw this]
 ·have h:=oV h;refine aC (ai (aj (rr ae (ax ae (λh2=>?_) (λh2=>?_)))))
  ·have h2:cN a<0:=a9 h2;refine rb (rc ae ae (EP _ _) (re ae (aF (bS (aL ar ae (au.of_eq (ay (λz=>AV.c (C.I .i64 z)) ?_)))))));have e1:a<0:=by unfold cN at h2;split at h2<;>(try split at h2)<;>omega
   have e2:b<0:=by rw[h]at h2;unfold cN at h2;split at h2<;>(try split at h2)<;>omega
   unfold dz;split<;>split<;>(try split)<;>omega
  ·have h2:¬cN a<0:=bC h2;refine aC (ai (rb (rc ae ae (EP _ _) (re ae (aF (aL ar ae (au.of_eq (ay (λz=>AV.c (C.I .i64 z)) ?_))))))));have e1:0≤a:=by unfold cN at h2;split at h2<;>(try split at h2)<;>omega
   have e2:0≤b:=by rw[h]at h2;unfold cN at h2;split at h2<;>(try split at h2)<;>omega
   unfold dz;split<;>split<;>(try split)<;>omega
def kU{x y:Int}(h:(x==y)=false):x≠y:=cq
set_option maxHeartbeats 8000000 in
def aj1(U v:List Int)(j n:Nat)(hU:bV U)(hv:bV v)(hn:v.length=n+2)(hj:j+n+3≤U.length)(hl:U.length≤1099511627777)(yy:2147483648≤v.getD (n+1) 0)(br:val ((U.drop j).take (n+3))<val v*4294967296):
  nf Tryz.prog 276 [.c (.W 0 j (n+3)),cS aE v] 23 aE U (cW (val ((U.drop j).take (n+3))/val v)) (c8 U j (bZ (n+3) (val ((U.drop j).take (n+3))%val v))):=by
 refine qJ Tryz.func276 ae ae ae ae ae ak ?_
 have K:=Y3 hU hv hn hj yy br
 have g1:=dd hU (j+(n+2))
 have g2:=dd hU (j+(n+1))
 have g3:=dd hU (j+n)
 have k1:=dd hv (n+1)
 have k2:=dd hv n
 have kD:=K.kD
 have RW:=K.DU
 have a1:((v.length:Int)).toNat=n+2:=af
 have a2:((v.length:Int)-1).toNat=n+1:=af
 have a3:((v.length:Int)-2).toNat=n:=af
 generalize hQ:tf 2 ((U.getD (j+(n+2)) 0*4294967296+U.getD (j+(n+1)) 0)/v.getD (n+1) 0) ((U.getD (j+(n+2)) 0*4294967296+U.getD (j+(n+1)) 0)%v.getD (n+1) 0) (v.getD (n+1) 0) (v.getD n 0) (U.getD (j+n) 0)=Q0
 refine rr ae (rr ae (rr ae (hp:=aN) ?_))
 rw[a1,a2]
 have e6:IntKind.wrap .u64 ((BitVec.ofInt (IntKind.bits .u64) (IntKind.wrap .u64 (IntKind.wrap .u64 (U.getD (j+(n+2)) 0)*2^(min ((32:Nat):Int).toNat (IntKind.bits .u64))))|||BitVec.ofInt (IntKind.bits .u64) (IntKind.wrap .u64 (U.getD (j+(n+1)) 0))).toNat:Int)=U.getD (j+(n+2)) 0*4294967296+U.getD (j+(n+1)) 0:=by rw[wrap_u64 (U.getD (j+(n+2)) 0) af af,wrap_u64 (U.getD (j+(n+1)) 0) af af,As _ 32 af af af,Ci _ _ 32 af (GD _ _) af af af,show(2:Int)^32=4294967296 from ae]
 have Rt:IntKind.wrap .u64 (v.getD (n+1) 0)=v.getD (n+1) 0:=wrap_u64 _ af af
 have Ru:IntKind.wrap .u64 (v.getD n 0)=v.getD n 0:=wrap_u64 _ af af
 have Rv:IntKind.wrap .u64 (U.getD (j+n) 0)=U.getD (j+n) 0:=wrap_u64 _ af af
 have oc:0≤U.getD (j+(n+2)) 0*4294967296+U.getD (j+(n+1)) 0:=af
 have EK:U.getD (j+(n+2)) 0*4294967296+U.getD (j+(n+1)) 0<18446744073709551616:=af
 have vB:=@Kn1.small _ _ _ _ _ _ _ _ _ K
 have aV:=@LI _ _ _ _ _ _ _ _ _ K
 have Am:=K.first
 have nF:=K.q0
 refine dy (st':=⟨[(0,.c (.W 0 j (n+3))),(1,cS aE v),(5,cI v.length),(6,cU (U.getD (j+(n+2)) 0*4294967296+U.getD (j+(n+1)) 0))],[(0,.vec 23 aE U)],4,[]⟩) (wk ⟨sR ae,sR ae,sR ae,sE ae ?_,ah⟩ ⟨bR ae,ah⟩) ?_
 ·exact ay (λz=>AV.c (C.I .u64 z)) e6
 generalize U.getD (j+(n+2)) 0*4294967296+U.getD (j+(n+1)) 0=t at*
 generalize HS:v.getD (n+1) 0=v1 at*
 generalize Rw:v.getD n 0=v2 at*
 generalize Ry:U.getD (j+n) 0=u2 at*
 generalize mZ:val ((U.drop j).take (n+3))=u at*
 have x1:IntKind.wrap .u64 (v.getD ((v.length:Int)-1).toNat 0)=v1:=by rw[a2,HS];exact Rt
 have x2:IntKind.wrap .u64 (v.getD ((v.length:Int)-2).toNat 0)=v2:=by rw[a3,Rw];exact Ru
 have x3:IntKind.wrap .u64 (U.getD (j+((v.length:Int)-2).toNat) 0)=u2:=by rw[a3,Ry];exact Rv
 have vA:0≤t/v1:=xS oc af
 have vo:0≤t%v1:=gZ _ af
 have n5:t%v1<v1:=iv _ af
 have aT:=pq t v1
 have jo:((-9223372036854775808≤(v.length:Int)-1∧(v.length:Int)-1≤9223372036854775807)∧0≤(v.length:Int)-1∧(v.length:Int)-1<(v.length:Int))∧IntKind.wrap .u64 (v.getD ((v.length:Int)-1).toNat 0)≠0:=by rw[x1];omega
 have Zo:=aV 2 (t/v1) (t%v1) (by rw[fh];omega) vo af (by show(4294967296:Int)≤t%v1+(2:Nat)*2147483648;omega) Am
 rw[hQ]at Zo
 obtain⟨q1,q2,q3⟩:=Zo
 refine rr ae (hp:=by simp only[Pr.an,Pr.h,num,aA,true_and,and_true];exact⟨⟨⟨jo,jo.1.1⟩,jo.1.2⟩,jo.2⟩) ?_
 refine yB ⟨[(0,.c (.W 0 j (n+3))),(1,cS aE v),(5,cI v.length),(7,cU Q0)],[(0,.vec 23 aE U)],30,[]⟩ ?_ (λje=>aH (bA (α:=Nat×Int×Int) (λx=>⟨[(0,.c (.W 0 j (n+3))),(1,cS aE v),(5,cI v.length),(6,cU t),(7,cU x.2.1),(8,cU x.2.2)],[(0,.vec 23 aE U)],6,[]⟩) (λx=>tf x.1 x.2.1 x.2.2 v1 v2 u2=Q0∧t=x.2.1*v1+x.2.2∧0≤x.2.2∧x.2.2<4294967296∧4294967296≤x.2.2+x.1*2147483648∧u/val v≤x.2.1) (λx=>x.1) (2,t/v1,t%v1) ⟨hQ,by show t=t/v1*v1+t%v1;rw[fh];omega,vo,by show t%v1<4294967296;omega,by show(4294967296:Int)≤t%v1+(2:Nat)*2147483648;omega,Am⟩ (wk ⟨sR ae,sR ae,sR ae,sR ae,sE ae ?_,sE ae ?_,ah⟩ ⟨bR ae,ah⟩) ?_))
 ·clear aV vB hQ;refine rr ae (aj (rr ae ?_));refine aH (bA (α:=Nat×Int×Int) (λx=>⟨[(0,.c (.W 0 j (n+3))),(1,cS aE v),(5,cI v.length),(7,cU Q0),(9,cU x.2.1),(10,cU x.2.2),(82,cI v.length),(83,cI x.1)],[(0,.vec 23 aE (c8 U j (bZ x.1 (val ((U.drop j).take x.1)-Q0*val (v.take x.1)))))],32,[]⟩) (λx=>x.1≤n+2∧(val ((U.drop j).take x.1)-Q0*val (v.take x.1))/4294967296^x.1= -(x.2.1+x.2.2)∧x.2.1=Q0*val (v.take x.1)/4294967296^x.1∧(x.2.2=0∨x.2.2=1)) (λx=>n+2-x.1) (0,0,0) ⟨bK _,by simp[val],by simp[val],.inl ae⟩ (wk ⟨sR ae,sR ae,sR ae,sR ae,sR ae,sR ae,sR ae,sR ae,ah⟩ ⟨bE ae ?_,ah⟩) ?_)
  ·exact ay (aK.vec 23 aE) (LL U j).symm
  rintro⟨i,c,b⟩ ⟨h1,h2,h3,h4⟩;simp only at h1 h2 h3 h4;have hc:=Y1 hv (show 0≤Q0 by omega) q3 i;rw[←h3]at hc;have gu:=dd hU (j+i);have dh:=YZ U v j i Q0 (c:=c) (b:=b) ae h2;have hlen:(bZ i (val ((U.drop j).take i)-Q0*val (v.take i))).length=i:=uj _ _;have m6:=yx (U:=U) (j:=j) (ws:=bZ i (val ((U.drop j).take i)-Q0*val (v.take i))) af;have rV:=LM (U:=U) (j:=j) (ws:=bZ i (val ((U.drop j).take i)-Q0*val (v.take i))) af;have lj:=λw=>LN (U:=U) (j:=j) (ws:=bZ i (val ((U.drop j).take i)-Q0*val (v.take i))) w af
  rw[hlen]at rV lj;simp only at dh;obtain⟨s1,s2⟩:=dh;refine rr ae (aj ?_);refine ax ae (λh=>?_) (λh=>?_)
  ·have h:i<n+2:=by have h:(i:Int)<(v.length:Int):=a9 h;omega
   have gv:=dd hv i;have hm:0≤Q0*v.getD i 0∧Q0*v.getD i 0≤18446744065119617025:=HO af af gv.1 af;have th:=Y2 (v:=v) (q:=Q0) i h3;refine aC (ai (aj (aH (rr ae (rr ae (hp:=aN) ?_)))));have ei:(i:Int).toNat=i:=bu i;have w1:IntKind.wrap .u64 (IntKind.wrap .u64 (Q0*IntKind.wrap .u64 (v.getD (i:Int).toNat 0))+c)=Q0*v.getD i 0+c:=by rw[ei,wrap_u64 (v.getD i 0) af af,wrap_u64 (Q0*v.getD i 0) af af,wrap_u64 _ af af]
   generalize hp:Q0*v.getD i 0+c=p at*;have cL:0≤p∧p<18446744073709551616:=af;refine dy (st':=⟨[(0,.c (.W 0 j (n+3))),(1,cS aE v),(5,cI v.length),(7,cU Q0),(10,cU b),(11,cI i),(12,cU p),(82,cI v.length),(83,cI i)],[(0,.vec 23 aE (c8 U j (bZ i (val ((U.drop j).take i)-Q0*val (v.take i)))))],40,[]⟩) (wk ⟨sR ae,sR ae,sR ae,sR ae,sR ae,sR ae,sE ae ?_,sR ae,sR ae,ah⟩ ⟨bR ae,ah⟩) ?_
   ·exact ay (λz=>AV.c (C.I .u64 z)) w1
   generalize hX:c8 U j (bZ i (val ((U.drop j).take i)-Q0*val (v.take i)))=X at*;refine rr ae (rr ae (hp:=aN) ?_);have w2:p.fdiv (2^(min ((32:Nat):Int).toNat (IntKind.bits .u64)))=p/4294967296:=At p 32 af;have w3:IntKind.wrap .u64 (IntKind.wrap .u64 (IntKind.wrap .u64 (X.getD (j+(i:Int).toNat) 0)-IntKind.wrap .u64 (IntKind.wrap .u32 p))-b)=(U.getD (j+i) 0-p%4294967296-b)%18446744073709551616:=by rw[ei,rV,rX,rX,rX,rX,yC];omega
   generalize hd:(U.getD (j+i) 0-p%4294967296-b)%18446744073709551616=d at*;refine dy (st':=⟨[(0,.c (.W 0 j (n+3))),(1,cS aE v),(5,cI v.length),(7,cU Q0),(9,cU (p/4294967296)),(11,cI i),(13,cU d),(82,cI v.length),(83,cI i)],[(0,.vec 23 aE X)],44,[]⟩) (wk ⟨sR ae,sR ae,sR ae,sR ae,sE ae ?_,sR ae,sE ae ?_,sR ae,sR ae,ah⟩ ⟨bR ae,ah⟩) ?_
   ·exact ay (λz=>AV.c (C.I .u64 z)) w2
   ·exact ay (λz=>AV.c (C.I .u64 z)) w3
   refine rr ae (hp:=aN) (rt ae (hp:=aN) (a6 (ai (rt ae (a8 (i+1,p/4294967296,1-(4294967296+U.getD (j+i) 0-p%4294967296-b)/4294967296) ⟨by show i+1≤n+2;omega,s2,th.symm,by show 1-(4294967296+U.getD (j+i) 0-p%4294967296-b)/4294967296=0∨1-(4294967296+U.getD (j+i) 0-p%4294967296-b)/4294967296=1;omega⟩ (by show n+2-(i+1)<n+2-i;omega) (wk ⟨sR ae,sR ae,sR ae,sR ae,sR ae,sE ae ?_,sR ae,sR ae,ah⟩ ⟨bE ae ?_,ah⟩))))))
   ·refine ay (λz=>AV.c (C.I .u64 z)) ?_;show d.fdiv (2^(min ((63:Nat):Int).toNat (IntKind.bits .u64)))=1-(4294967296+U.getD (j+i) 0-p%4294967296-b)/4294967296;rw[At d 63 af];omega
   ·refine ay (aK.vec 23 aE) ?_;show X.set (j+(i:Int).toNat) (IntKind.wrap .u32 d)=c8 U j (bZ (i+1) _);rw[s1,ei,yC,show d%4294967296=(4294967296+U.getD (j+i) 0-p%4294967296-b)%4294967296 by omega,lj]
  ·have e:i=n+2:=by have h:¬(i:Int)<(v.length:Int):=bC h;omega
   subst e;have oS:v.getD (n+2) 0=0:=by simp[aU,nn (show v.length≤n+2 by omega)]
   rw[oS,et,Br,iZ hc.1 hc.2,Gy hc.1 hc.2,Br,nv v (n+2+1) af,mZ]at s2;rw[oS,et,Br,iZ hc.1 hc.2,nv v (n+2+1) af,mZ]at s1;generalize hX:c8 U j (bZ (n+2) (val ((U.drop j).take (n+2))-Q0*val (v.take (n+2))))=X at*;refine bh (bt (bq (bp (ai (rr ae (hp:=aN) ?_)))));have w3:IntKind.wrap .u64 (IntKind.wrap .u64 (IntKind.wrap .u64 (X.getD (j+(v.length:Int).toNat) 0)-c)-b)=(U.getD (j+(n+2)) 0-c-b)%18446744073709551616:=by rw[a1,rV,rX,rX,rX];omega
   generalize hd:(U.getD (j+(n+2)) 0-c-b)%18446744073709551616=d at*;refine dy (st':=⟨[(0,.c (.W 0 j (n+3))),(1,cS aE v),(5,cI v.length),(7,cU Q0),(14,cU d)],[(0,.vec 23 aE X)],44,[]⟩) (wk ⟨sR ae,sR ae,sR ae,sR ae,sE ae ?_,ah⟩ ⟨bR ae,ah⟩) ?_
   ·exact ay (λz=>AV.c (C.I .u64 z)) w3
   refine rr ae (hp:=aN) (aj (rr ae (hp:=aN) ?_));have RX:X.set (j+(v.length:Int).toNat) (IntKind.wrap .u32 d)=c8 U j (bZ (n+3) (u-Q0*val v)):=by rw[a1,show n+3=n+2+1 from ae,s1,yC,show d%4294967296=(4294967296+U.getD (j+(n+2)) 0-c-b)%4294967296 by omega,lj]
   have uo:d.fdiv (2^(min ((63:Nat):Int).toNat (IntKind.bits .u64)))=1-(4294967296+U.getD (j+(n+2)) 0-c-b)/4294967296:=by rw[At d 63 af];omega
   generalize qH:1-(4294967296+U.getD (j+(n+2)) 0-c-b)/4294967296=b' at*;have atb:b'=0∨b'=1:=af;have qL:=pq u (val v);have ju:=gZ u (show val v≠0 by omega);have qE:=iv u RW;have Y8:=jZ (n+2+1);have h5:=pq (u-Q0*val v) (4294967296^(n+2+1));have h6:=gZ (u-Q0*val v) (show(4294967296:Int)^(n+2+1)≠0 by omega);have h7:=iv (u-Q0*val v) Y8;rw[s2]at h5;refine ax ae (λh8=>?_) (λh8=>?_)
   ·have h8:b'=0:=by have h8:d.fdiv (2^(min ((63:Nat):Int).toNat (IntKind.bits .u64)))=0:=eq_of_beq h8;rw[←uo];exact h8
    have hq:Q0=u/val v:=by
     rw[h8]at h5;simp only[Int.neg_zero,et,nq]at h5;by_cases e:Q0=u/val v
     ·exact e
     ·exfalso;have e2:Q0=u/val v+1:=af;have RN:Q0*val v=val v*(u/val v)+val v:=by rw[e2,lK,ja,fh]
      omega
    have e1:u-Q0*val v=u%val v:=by have:=fh (u/val v) (val v);rw[hq];omega
    refine rr ae (aF ?_);repeat(first|refine bS ?_|refine fq ?_|refine gU ?_)
    refine Qy (st':=⟨[(4,cW (u/val v))],[(0,.vec 23 aE (c8 U j (bZ (n+3) (u%val v))))],60,[]⟩) (wk ⟨sE ae ?_,ah⟩ ⟨bE ae ?_,ah⟩) (uh ar ae (au.refl _) ae)
    ·refine ay (λz=>AV.c (C.I .u32 z)) ?_;rw[wrap_u32 _ af af];exact hq
    ·rw[RX,e1]
   ·have h8:b'=1:=by have h8:¬d.fdiv (2^(min ((63:Nat):Int).toNat (IntKind.bits .u64)))=0:=kU h8;rw[uo]at h8;omega
    have hq:Q0=u/val v+1:=by
     rw[h8]at h5;rw[Int.mul_neg,ns]at h5;by_cases e:Q0=u/val v
     ·exfalso;have:Q0*val v=val v*(u/val v):=by rw[e,fh]
      omega
     ·omega
    have RN:Q0*val v=val v*(u/val v)+val v:=by rw[hq,lK,ja,fh]
    refine aC (ai ?_);refine dy (st':=⟨[(0,.c (.W 0 j (n+3))),(1,cS aE v),(5,cI v.length),(7,cU Q0)],[(0,.vec 23 aE (c8 U j (bZ (n+3) (u-Q0*val v))))],50,[]⟩) (wk ⟨sR ae,sR ae,sR ae,sR ae,ah⟩ ⟨bE ae ?_,ah⟩) ?_
    ·rw[RX]
    have pO:∀x,(bZ (n+3) x).length=n+3:=λx=>uj _ _
    have LY:bV (c8 U j (bZ (n+3) (u-Q0*val v))):=RB hU (HT _ _);have atc:(c8 U j (bZ (n+3) (u-Q0*val v))).length=U.length:=yx wq;have aj2:c8 (c8 U j (bZ (n+3) (u-Q0*val v))) j (bZ (n+3) (val (((c8 U j (bZ (n+3) (u-Q0*val v))).drop j).take (n+3))+val v))=c8 U j (bZ (n+3) (u%val v)):=by rw[Y9 wq (by rw[pO,pO]),RC wq,Bc wq,lI wq,HU];refine ay (c8 U j) (LK _ _ _ ?_);rw[Int.emod_add_emod];congr 1;omega
    generalize c8 U j (bZ (n+3) (u-Q0*val v))=U1 at*;clear RX uo qH s1 s2 lj rV hX;refine rr ae (aj (rr ae ?_));refine aH (bA (α:=Nat×Int) (λx=>⟨[(0,.c (.W 0 j (n+3))),(1,cS aE v),(5,cI v.length),(7,cU Q0),(9,cU x.2),(135,cI v.length),(136,cI x.1)],[(0,.vec 23 aE (c8 U1 j (bZ x.1 (val ((U1.drop j).take x.1)+val (v.take x.1)))))],60,[]⟩) (λx=>x.1≤n+2∧(val ((U1.drop j).take x.1)+val (v.take x.1))/4294967296^x.1=x.2∧(x.2=0∨x.2=1)) (λx=>n+2-x.1) (0,0) ⟨bK _,by simp[val],.inl ae⟩ (wk ⟨sR ae,sR ae,sR ae,sR ae,sR ae,sR ae,sR ae,ah⟩ ⟨bE ae ?_,ah⟩) ?_)
    ·exact ay (aK.vec 23 aE) (LL U1 j).symm
    rintro⟨i,c⟩ ⟨h1,h2,h4⟩;simp only at h1 h2 h4;have gu:=dd LY (j+i);have dh:=Y0 U1 v j i (c:=c) ae h2;simp only at dh;obtain⟨s1,s2⟩:=dh;have hlen:(bZ i (val ((U1.drop j).take i)+val (v.take i))).length=i:=uj _ _;have m6:=yx (U:=U1) (j:=j) (ws:=bZ i (val ((U1.drop j).take i)+val (v.take i))) af;have rV:=LM (U:=U1) (j:=j) (ws:=bZ i (val ((U1.drop j).take i)+val (v.take i))) af;have lj:=λw=>LN (U:=U1) (j:=j) (ws:=bZ i (val ((U1.drop j).take i)+val (v.take i))) w af
    rw[hlen]at rV lj;refine rr ae (aj ?_);refine ax ae (λh=>?_) (λh=>?_)
    ·have h:i<n+2:=by have h:(i:Int)<(v.length:Int):=a9 h;omega
     have gv:=dd hv i;generalize hX:c8 U1 j (bZ i (val ((U1.drop j).take i)+val (v.take i)))=X at*;have ei:(i:Int).toNat=i:=bu i;refine aC (ai (aj (aH (rr ae (rr ae (hp:=aN) ?_)))));have w1:IntKind.wrap .u64 (IntKind.wrap .u64 (IntKind.wrap .u64 (X.getD (j+(i:Int).toNat) 0)+IntKind.wrap .u64 (v.getD (i:Int).toNat 0))+c)=U1.getD (j+i) 0+v.getD i 0+c:=by rw[ei,rV,wrap_u64 (U1.getD (j+i) 0) af af,wrap_u64 (v.getD i 0) af af,wrap_u64 (_+v.getD i 0) af af,wrap_u64 _ af af]
     generalize ht:U1.getD (j+i) 0+v.getD i 0+c=s at*;have oc:0≤s∧s<8589934592:=af;refine dy (st':=⟨[(0,.c (.W 0 j (n+3))),(1,cS aE v),(5,cI v.length),(7,cU Q0),(15,cI i),(16,cU s),(135,cI v.length),(136,cI i)],[(0,.vec 23 aE X)],70,[]⟩) (wk ⟨sR ae,sR ae,sR ae,sR ae,sR ae,sE ae ?_,sR ae,sR ae,ah⟩ ⟨bR ae,ah⟩) ?_
     ·exact ay (λz=>AV.c (C.I .u64 z)) w1
     refine rr ae (hp:=aN) (rt ae (hp:=aN) (a6 (ai (rt ae (a8 (i+1,s/4294967296) ⟨by show i+1≤n+2;omega,s2,by show s/4294967296=0∨s/4294967296=1;omega⟩ (by show n+2-(i+1)<n+2-i;omega) (wk ⟨sR ae,sR ae,sR ae,sR ae,sE ae ?_,sR ae,sR ae,ah⟩ ⟨bE ae ?_,ah⟩))))))
     ·exact ay (λz=>AV.c (C.I .u64 z)) (At s 32 af)
     ·refine ay (aK.vec 23 aE) ?_;show X.set (j+(i:Int).toNat) (IntKind.wrap .u32 s)=c8 U1 j (bZ (i+1) _);rw[s1,ei,yC,lj]
    ·have e:i=n+2:=by have h:¬(i:Int)<(v.length:Int):=bC h;omega
     subst e;rw[oS,nq,nv v (n+2+1) af]at s1;generalize hX:c8 U1 j (bZ (n+2) (val ((U1.drop j).take (n+2))+val (v.take (n+2))))=X at*;refine bh (bt (bq (bp (ai (rr ae (hp:=aN) (rr ae (aF ?_)))))));refine Qy (st':=⟨[(4,cW (u/val v))],[(0,.vec 23 aE (c8 U j (bZ (n+3) (u%val v))))],90,[]⟩) (wk ⟨sE ae ?_,ah⟩ ⟨bE ae ?_,ah⟩) (uh ar ae (au.refl _) ae)
     ·refine ay (λz=>AV.c (C.I .u32 z)) ?_;rw[rX,yC];omega
     ·refine ay (aK.vec 23 aE) ?_;rw[←aj2,show n+3=n+2+1 from ae,s1,a1,rV,yC,yC,show(U1.getD (j+(n+2)) 0+c%4294967296)%4294967296=(U1.getD (j+(n+2)) 0+c)%4294967296 by omega,lj]
 ·refine ay (λz=>AV.c (C.I .u64 z)) ?_;show IntKind.wrap .u64 (t.tdiv (IntKind.wrap .u64 (v.getD ((v.length:Int)-1).toNat 0)))=t/v1;have:=Int.ediv_le_self v1 oc;rw[x1,EJ oc,wrap_u64 _ vA af]
 ·refine ay (λz=>AV.c (C.I .u64 z)) ?_;show(t.tmod (IntKind.wrap .u64 (v.getD ((v.length:Int)-1).toNat 0)))=t%v1;rw[x1,HR oc]
 ·rintro⟨f,q,r⟩ ⟨h1,h2,h3,h4,h5,h6⟩;simp only at h1 h2 h3 h4 h5 h6;have hqs:=vB h2 h3;cases f with
  |zero=>omega
  |succ f=>
  rw[tf]at h1;have qE:0≤q*v2∧q*v2<18446744073709551616:=by refine⟨jX af af,?_⟩;have:q*v2≤4294967297*4294967295:=Bo af af af ak;omega
  refine aj (rb (rg 50 ae ae (λh=>?_) (λh=>?_)))
  ·have xc:q≥4294967296:=by simpa using h
   have hc:q≥4294967296∨q*v2>r*4294967296+u2:= .inl xc;refine re ae (ax ae (λ_=>?_) (λh7=>by cases h7));have br:u/val v<q:=by
    rcases hc with hc|hc
    ·have:=K.DV;omega
    ·exact K.down h2 af hc
   have w1:IntKind.wrap .u64 (q-1)=q-1:=wrap_u64 _ af af;have w2:IntKind.wrap .u64 (r+IntKind.wrap .u64 (v.getD ((v.length:Int)-1).toNat 0))=r+v1:=by rw[x1,wrap_u64 _ af af]
   refine aC (ai (aH (rr ae (rr ae (hp:=aN) (rr ae (ax ae (λh7=>?_) (λh7=>?_)))))))
   ·have h7:r+v1≥4294967296:=by have h7:IntKind.wrap .u64 (r+IntKind.wrap .u64 (v.getD ((v.length:Int)-1).toNat 0))≥4294967296:=a9 h7;omega
    rw[aw hc,aw h7]at h1;refine bh (Ho (bq (bp (nG je (wk ⟨sR ae,sR ae,sR ae,sE ae ?_,ah⟩ ⟨bR ae,ah⟩)))));refine ay (λz=>AV.c (C.I .u64 z)) ?_;rw[←h1];exact w1
   ·have h7:¬r+v1≥4294967296:=by have h7:¬IntKind.wrap .u64 (r+IntKind.wrap .u64 (v.getD ((v.length:Int)-1).toNat 0))≥4294967296:=bC h7;omega
    rw[aw hc,aq h7]at h1;refine aC (a6 (a8 (f,q-1,r+v1) ⟨h1,by show t=(q-1)*v1+(r+v1);rw[x5,ja];omega,by show 0≤r+v1;omega,by show r+v1<4294967296;omega,by show(4294967296:Int)≤r+v1+(f:Nat)*2147483648;omega,by show u/val v≤q-1;omega⟩ (fT f) (wk ⟨sR ae,sR ae,sR ae,sR ae,sE ae ?_,sE ae ?_,ah⟩ ⟨bR ae,ah⟩)))
    ·exact ay (λz=>AV.c (C.I .u64 z)) w1
    ·exact ay (λz=>AV.c (C.I .u64 z)) w2
  ·have xc:¬q≥4294967296:=by have:q<4294967296:=cq;omega
   have w3:IntKind.wrap .u64 (q*IntKind.wrap .u64 (v.getD ((v.length:Int)-2).toNat 0))=q*v2:=by rw[x2,wrap_u64 _ qE.1 qE.2]
   have w4:IntKind.wrap .u64 ((BitVec.ofInt (IntKind.bits .u64) (IntKind.wrap .u64 (r*2^(min ((32:Nat):Int).toNat (IntKind.bits .u64))))|||BitVec.ofInt (IntKind.bits .u64) (IntKind.wrap .u64 (U.getD (j+((v.length:Int)-2).toNat) 0))).toNat:Int)=r*4294967296+u2:=by rw[x3,As r 32 h3 af af,Ci _ _ 32 af (GD _ _) af af af,show(2:Int)^32=4294967296 from ae]
   refine re ae (hp:=aN) (ax ae (λh8=>?_) (λh8=>?_))
   ·have hc:q≥4294967296∨q*v2>r*4294967296+u2:= .inr (by have h8:IntKind.wrap .u64 (q*IntKind.wrap .u64 (v.getD ((v.length:Int)-2).toNat 0))>IntKind.wrap .u64 ((BitVec.ofInt (IntKind.bits .u64) (IntKind.wrap .u64 (r*2^(min ((32:Nat):Int).toNat (IntKind.bits .u64))))|||BitVec.ofInt (IntKind.bits .u64) (IntKind.wrap .u64 (U.getD (j+((v.length:Int)-2).toNat) 0))).toNat:Int):=a9 h8;rw[w3,w4]at h8;exact h8);have br:u/val v<q:=by
     rcases hc with hc|hc
     ·have:=K.DV;omega
     ·exact K.down h2 af hc
    have w1:IntKind.wrap .u64 (q-1)=q-1:=wrap_u64 _ af af;have w2:IntKind.wrap .u64 (r+IntKind.wrap .u64 (v.getD ((v.length:Int)-1).toNat 0))=r+v1:=by rw[x1,wrap_u64 _ af af]
    refine aC (ai (aH (rr ae (rr ae (hp:=aN) (rr ae (ax ae (λh7=>?_) (λh7=>?_)))))))
    ·have h7:r+v1≥4294967296:=by have h7:IntKind.wrap .u64 (r+IntKind.wrap .u64 (v.getD ((v.length:Int)-1).toNat 0))≥4294967296:=a9 h7;omega
     rw[aw hc,aw h7]at h1;refine bh (Ho (bq (bp (nG je (wk ⟨sR ae,sR ae,sR ae,sE ae ?_,ah⟩ ⟨bR ae,ah⟩)))));refine ay (λz=>AV.c (C.I .u64 z)) ?_;rw[←h1];exact w1
    ·have h7:¬r+v1≥4294967296:=by have h7:¬IntKind.wrap .u64 (r+IntKind.wrap .u64 (v.getD ((v.length:Int)-1).toNat 0))≥4294967296:=bC h7;omega
     rw[aw hc,aq h7]at h1;refine aC (a6 (a8 (f,q-1,r+v1) ⟨h1,by show t=(q-1)*v1+(r+v1);rw[x5,ja];omega,by show 0≤r+v1;omega,by show r+v1<4294967296;omega,by show(4294967296:Int)≤r+v1+(f:Nat)*2147483648;omega,by show u/val v≤q-1;omega⟩ (fT f) (wk ⟨sR ae,sR ae,sR ae,sR ae,sE ae ?_,sE ae ?_,ah⟩ ⟨bR ae,ah⟩)))
     ·exact ay (λz=>AV.c (C.I .u64 z)) w1
     ·exact ay (λz=>AV.c (C.I .u64 z)) w2
   ·have hc:¬(q≥4294967296∨q*v2>r*4294967296+u2):=by have h8:¬IntKind.wrap .u64 (q*IntKind.wrap .u64 (v.getD ((v.length:Int)-2).toNat 0))>IntKind.wrap .u64 ((BitVec.ofInt (IntKind.bits .u64) (IntKind.wrap .u64 (r*2^(min ((32:Nat):Int).toNat (IntKind.bits .u64))))|||BitVec.ofInt (IntKind.bits .u64) (IntKind.wrap .u64 (U.getD (j+((v.length:Int)-2).toNat) 0))).toNat:Int):=bC h8;rw[w3,w4]at h8;omega
    rw[aq hc]at h1;subst h1;exact bh (bt (bq (bp (nG je bY))))
end Go.El
