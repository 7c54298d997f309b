/- Contracts: integers of the program: division. Own work; no condition. -/
import Derived.Test.YtkkccchkmcjcpaaGreatU5
import Derived.Test.YtkkccchkmcjcpaaGreatU3
set_option linter.defProp false
set_option linter.unusedVariables false
set_option linter.unusedSimpArgs false
set_option linter.unnecessarySimpa false
namespace Go.El
open Go Go.Proofs
def yD(m:Nat):aG Tryz.prog 234 [cS aE (az m)] (cS aE (az m)):=by have h:=xa (az m);rwa[PV]at h
def aj3{k n:Nat}(hn:(az k).length=n+2){x s:Nat}(ex:(x:Int)=(az k).getD (n+1) 0)(h1:2147483648≤x*2^s)(h2:x*2^s<4294967296)(hs:s≤31):
  ((k*2^s:Nat):Int)<4294967296^(n+2)∧(az (k*2^s)).length=n+2∧2147483648≤(az (k*2^s)).getD (n+1) 0:=by
 have hD:0<2^s:=nr ak
 have wM:(x+1)*2^s≤4294967296:=by
  have e:4294967296=2^(32-s)*2^s:=by rw[←py,show 32-s+s=32 by omega]
  have:x<2^(32-s):=by rw[e]at h2;exact Nat.lt_of_mul_lt_mul_right h2
  rw[e];exact eJ _ this
 generalize hDD:2^s=D at*
 have hv:=lh (az k) (n+1)
 rw[nv _ _ (show(az k).length≤n+1+1 by omega),ff,←ex]at hv
 have l1:=nX (jY (eK k) (n+1))
 rw[show((az k).take (n+1)).length=n+1 by simp;omega]at l1
 have l0:=mz (jY (eK k) (n+1))
 have hp:=jZ (n+1)
 generalize val ((az k).take (n+1))=k' at*
 have aj4:((x:Int)+1)*(D:Int)≤4294967296:=by have:(((x+1)*D:Nat):Int)≤((4294967296:Nat):Int):=af;rw[gi,xV]at this;exact this
 have zP:(2147483648:Int)≤(x:Int)*(D:Int):=by have:((2147483648:Nat):Int)≤((x*D:Nat):Int):=af;rw[gi]at this;exact this
 have kd:((k*D:Nat):Int)<4294967296^(n+2):=by
  rw[gi,qK,hv];have a1:(k'+(x:Int)*4294967296^(n+1))*D<(((x:Int)+1)*4294967296^(n+1))*D:=Ko (by rw[lK,ja];omega) af;have a2:((x:Int)+1)*4294967296^(n+1)*D=4294967296^(n+1)*(((x:Int)+1)*D):=by generalize (4294967296:Int)^(n+1)=y;grind
  have a3:4294967296^(n+1)*(((x:Int)+1)*D)≤4294967296^(n+1)*4294967296:=jx aj4 af;omega
 have hl:(az (k*D)).length=n+2:=by have b1:(az (k*D)).length≤n+2:=By kd;have b2:=te (m:=k) (k:=k*D) (Gu _ hD);omega
 refine⟨kd,hl,?_⟩
 have sK:=lh (az (k*D)) (n+1)
 rw[nv _ _ (show(az (k*D)).length≤n+1+1 by omega),ff]at sK
 have m1:=nX (jY (eK (k*D)) (n+1))
 rw[show((az (k*D)).take (n+1)).length=n+1 by simp;omega]at m1
 generalize (az (k*D)).getD (n+1) 0=c1 at*
 generalize val ((az (k*D)).take (n+1))=c' at*
 by_cases e:2147483648≤c1
 ·exact e
 ·exfalso;have e1:(c1+1)*4294967296^(n+1)≤(x:Int)*D*4294967296^(n+1):=jI af af;have e2:(x:Int)*4294967296^(n+1)*D≤(k:Int)*D:=jI af af;have e3:(x:Int)*4294967296^(n+1)*D=(x:Int)*D*4294967296^(n+1):=by generalize (4294967296:Int)^(n+1)=y;grind
  have e4:(c1+1)*4294967296^(n+1)=c1*4294967296^(n+1)+4294967296^(n+1):=Kc;rw[gi]at sK;omega
set_option maxHeartbeats 8000000 in
def aj5(m k n:Nat)(hn:(az k).length=n+2)(rH:k≤m)(lm:(az m).length≤1099511627776):aG Tryz.prog 235 [cS aE (az m),cS aE (az k)] (.t [(false,[.S aE (az (m/k))]),(false,[.S aE (az (m%k))])]):=by
 refine aX Tryz.func235 ae ae ae ae ae ak ?_;have jq:=dd (eK k) (n+1);have eB:(az k).getD (n+1) 0≠0:=by
  rcases u9 k with e|e
  ·rw[e]at hn;simp at hn
  ·rw[hn]at e;exact e
 obtain⟨x,ex⟩:∃x:Nat,(x:Int)=(az k).getD (n+1) 0:=⟨((az k).getD (n+1) 0).toNat,DD jq.1⟩;obtain⟨s,hlz,hs,x1,x2⟩:=ajT x af af;obtain⟨f5,f6,f7⟩:=aj3 hn ex x1 x2 hs;have hD:0<2^s:=nr ak;have hD2:2^s≤2^31:=jV ak hs;have RY:(2:Int)^s=((2^s:Nat):Int):=be;have gV:0<k:=by
  rcases wE k with e|e
  ·subst e;rw[DT]at hn;simp at hn
  ·exact e
 have EG:n+2≤(az m).length:=by rw[←hn];exact te rH
 obtain⟨M,hM⟩:∃M,(az m).length=M+(n+2):=⟨(az m).length-(n+2),by omega⟩;have RK:((m*2^s:Nat):Int)<4294967296^(M+(n+2)+1):=by have h1:=va (n:=m);rw[hM]at h1;rw[qK,gi];have:=jZ (M+(n+2));have h2:(m:Int)*((2^s:Nat):Int)≤(m:Int)*4294967296:=jx af af;omega
 have HX:¬dz (m:Int) (k:Int)<0:=by unfold dz;rw[aq af];split<;>decide
 have Zp:=Zm (az m) s (eK m) hs lm;have nZ:=(Zm (az k) s (eK k) hs af).fs;have LZ:=va (n:=k);rw[hn]at LZ;rw[ff,hn,RY,←gi]at nZ;rw[ff,RY,←gi,hM]at Zp;have hVt:(bZ (n+2+1) ((k*2^s:Nat):Int)).take (n+2)=az (k*2^s):=by have:=YX (eK (k*2^s));rw[f6,ff]at this;rw[EL,List.take_left' (uj _ _),this]
 refine rr ae (rb (rc ae ae (yD m) (rc ae ae (yD k) (re ae ?_))));refine aj (rb (rc ae ae (EP m k) (re ae (ax ae (λh=>absurd (a9 h) HX) (λ_=>aC (ai ?_))))));refine aj (rr ae (ax ae (λh=>?_) (λ_=>aC (ai ?_))))
 ·exfalso;have h:((az k).length:Int)=1:=eq_of_beq h;omega
 have a2:(((az k).length:Int)-1).toNat=n+1:=af;have aj8:aG Tryz.prog 274 [cW ((az k).getD (((az k).length:Int)-1).toNat 0)] (cI s):=by rw[a2,←ex];exact hlz
 refine rr ae (rb (rc ae ae aj8 (re ae (hp:=aN) ?_)));refine rb (w9 ae ae Zp (re ae ?_));refine rb (rc ae ae nZ (re ae (hp:=by simp only[Pr.an,Pr.h,num,aA,true_and,and_true];rw[uj];omega) ?_));refine rb (rm aE (M+1) ae ae ae ae ae ae (lU .u32) af ?_ ?_ (re ae ?_))
 ·show _*4≤_;omega
 ·show _*1≤_;omega
 generalize xd:bZ (M+(n+2)+1) ((m*2^s:Nat):Int)=U0;have HY:val U0=((m*2^s:Nat):Int):=by rw[←xd,HU,iZ af RK]
 have HZ:bV U0:=by rw[←xd];exact HT _ _
 have RL:U0.length=M+(n+2)+1:=by rw[←xd,uj]
 have oS:(0:Int)<((k*2^s:Nat):Int):=by have:0<k*2^s:=zG gV hD;omega
 have RM:vC ((m*2^s:Nat):Int) ((k*2^s:Nat):Int) (n+2) M (M+1,U0,List.replicate (M+1) 0):=by
  refine⟨bD _,RL,HZ,?_,by simp,sJ _,λi hi=>?_,?_⟩
  ·show val (U0.drop (M+1))<_;have h1:=An U0 (M+1) af;have h2:=mz (jY HZ (M+1));have hp:=jZ (M+1);by_cases e:val (U0.drop (M+1))<((k*2^s:Nat):Int)
   ·exact e
   ·exfalso;have h3:4294967296^(M+1)*((k*2^s:Nat):Int)≤4294967296^(M+1)*val (U0.drop (M+1)):=jx af af;have h4:=KQ (eK k) (u9 k) (by intro e;rw[e]at hn;simp at hn);rw[ff,hn,show n+2-1=n+1 by omega]at h4;have h5:=va (n:=m);rw[hM,show M+(n+2)=M+1+(n+1)by omega,Int.pow_add]at h5;have h6:4294967296^(M+1)*4294967296^(n+1)*((2^s:Nat):Int)≤4294967296^(M+1)*((k*2^s:Nat):Int):=by rw[gi,ke];exact jx (jI h4 af) af
    have h7:(m:Int)*((2^s:Nat):Int)<4294967296^(M+1)*4294967296^(n+1)*((2^s:Nat):Int):=Ko h5 af;rw[HY,gi m]at h1;omega
  ·show(List.replicate (M+1) (0:Int)).getD i 0=0;rw[aU,mU];split<;>rfl
  ·show _=val U0+_*val (List.replicate (M+1) 0);rw[wK,HY];omega
 refine aj (rr ae ?_);refine aH (bA (α:=Nat×List Int×List Int) (λx=>⟨[(8,cI ((n+2:Nat):Int)),(9,cI s),(10,.c (.X 6002000)),(11,cS aE (az (k*2^s))),(12,.c (.X 8005000)),(13,cI ((x.1:Int)-1))],[(6002000,.vec 23 aE x.2.1),(8005000,.vec 23 aE x.2.2)],10,[]⟩) (vC ((m*2^s:Nat):Int) ((k*2^s:Nat):Int) (n+2) M) (λx=>x.1) (M+1,U0,List.replicate (M+1) 0) RM (wk ⟨sE ae ?_,sR ae,sR ae,sE ae ?_,sR ae,sE ae ?_,ah⟩ ⟨bR ae,bR ae,ah⟩) ?_)
 ·exact ay (λz=>AV.c (C.I .i64 z)) af
 ·refine ay (λz=>AV.c (C.S aE z)) ?_;rw[←hVt];simp only[hn,bu,uY]
 ·exact ay (λz=>AV.c (C.I .i64 z)) af
 rintro⟨c,U,Q⟩ hI;have g9:U.length=M+(n+2)+1:=hI.ul;have qF:bV U:=hI.ur;have rW:Q.length=M+1:=hI.ql;have hck:c≤M+1:=hI.k;refine aj (rr ae ?_);refine ax ae (λh=>?_) (λh=>?_)
 ·have h:(c:Int)-1≥0:=a9 h;obtain⟨j,rfl⟩:∃j,c=j+1:=⟨c-1,by omega⟩;have ej:((j+1:Nat):Int)-1=(j:Int):=af;rw[ej];have Ao:=hI.next oS f5;obtain⟨_,m6⟩:=hI.RF f5;have Zq:=aj1 U (az (k*2^s)) j n qF (eK _) f6 af af f7 (by rw[ff];exact m6);rw[ff]at Zq;rw[show n+2+1=n+3 from ae]at Ao m6;have RH:=mz (jY (zM qF j) (n+3));have hqb:=xS RH (Bs oS);have atg:val ((U.drop j).take (n+3))/((k*2^s:Nat):Int)<4294967296:=DB oS (by rw[fh];exact m6);refine aC (ai (aj (aH ?_)));refine cK (YL j (j+(n+3)) ae ae ae ae ae ae af af (by show j+(n+3)≤U.length;omega) ?_);rw[show j+(n+3)-j=n+3 by omega];refine n9 6002000 ae Zq ae ae (re ae ?_);refine a6 (ai (rt ae (a8 (j,c8 U j (bZ (n+3) (val ((U.drop j).take (n+3))%((k*2^s:Nat):Int))),Q.set j (val ((U.drop j).take (n+3))/((k*2^s:Nat):Int))) Ao (fT j) (wk ⟨sR ae,sR ae,sR ae,sR ae,sR ae,sR ae,ah⟩ ⟨bR ae,bE ae ?_,ah⟩))));refine ay (aK.vec 23 aE) ?_;show Q.set (j:Int).toNat _=Q.set j _;rw[bu]
 ·have h:¬(c:Int)-1≥0:=bC h;have hc:c=0:=af;subst hc;obtain⟨e1,e2⟩:=hI.fin;have q1:a7 Q=az (m/k):=by
   rw[qn hI.qr];show az (val Q).toNat=_;rw[e1];have:((m*2^s:Nat):Int)/((k*2^s:Nat):Int)=((m/k:Nat):Int):=by rw[←Bl,Nat.mul_div_mul_right _ _ hD]
   rw[this,bu]
  have hub:val U<((k*2^s:Nat):Int):=hI.ub;have hut:val (U.take (n+2))=val U:=by have h1:=An U (n+2) af;rw[Y4 qF (n+2) af af,et,nq]at h1;exact h1.symm
  have uo:=ajY (U.take (n+2)) s (jY qF _) hs zt;have q2:az (val (U.take (n+2))/2^s).toNat=az (m%k):=by
   rw[hut,e2,RY];have:((m*2^s:Nat):Int)%((k*2^s:Nat):Int)/((2^s:Nat):Int)=((m%k:Nat):Int):=by rw[←GH,Nat.mul_mod_mul_right,←Bl,WO _ hD]
   rw[this,bu]
  rw[q2]at uo;have ht:=xa Q;rw[q1]at ht;refine bh (bt (bq (bp (ai (fY 6002000 ae ae ae (fY 8005000 ae ae ae ?_))))));refine rb (rc ae ae ht (rc ae ae uo (hp:=aN) (re ae (aF (aL ar ae (au.of_eq ?_))))));rfl
def Zr(m k:Nat)(hk:k≠0)(lm:(az m).length≤1099511627776):aG Tryz.prog 235 [cS aE (az m),cS aE (az k)] (.t [(false,[.S aE (az (m/k))]),(false,[.S aE (az (m%k))])]):=by
 by_cases rH:m<k
 ·refine aX Tryz.func235 ae ae ae ae ae ak ?_;refine rr ae (rb (rc ae ae (yD m) (rc ae ae (yD k) (re ae ?_))));refine aj (rb (rc ae ae (EP m k) (re ae (ax ae (λ_=>?_) (λh=>?_)))))
  ·refine rb (rc ae ae (LR (az m) lm) (re ae (aF (bS (aL ar ae ?_)))));rw[GG rH,rD rH];exact au.t2 (au.nil aE)
  ·exfalso;have h:¬dz (m:Int) (k:Int)<0:=bC h;unfold dz at h;rw[aw af]at h;omega
 ·by_cases dR:k<4294967296
  ·refine aX Tryz.func235 ae ae ae ae ae ak ?_;have hw:az k=[(k:Int)]:=by rw[x6 hk,GG dR,DT,rD dR]
   have HX:¬dz (m:Int) (k:Int)<0:=by unfold dz;rw[aq af];split<;>decide
   have hd:=ajU (az m) (k:Int) (eK m) af af lm;rw[ff,←Bl,←GH,bu]at hd;have hc:=EP m k;have ht:=yD k;rw[hw]at hc ht⊢;refine rr ae (rb (rc ae ae (yD m) (rc ae ae ht (re ae ?_))));refine aj (rb (rc ae ae hc (re ae (ax ae (λh=>absurd (a9 h) HX) (λ_=>aC (ai ?_))))));have L0:aG Tryz.prog 273 [cS aE (az m),.c (num .u64 (k:Int)).1] (.t [(false,[.S aE (az (m/k))]),(false,[.I .u64 ((m%k:Nat):Int)])]):=by rw[show(AV.c (num .u64 (k:Int)).1)=cU (k:Int)from ay (λz=>AV.c (C.I .u64 z)) (wrap_u64 _ af af)];exact hd
   have ati:=iy m (qj hk);refine aj (rr ae (ax ae (λ_=>?_) (λh=>by cases h)));refine rb (rc ae ae L0 (re ae ?_));refine rb (rc ae ae (LQ (m%k) af) (re ae (aF (bS (aL ar ae (au.refl _))))))
  ·have h1:2≤(az k).length:=by
    by_cases e:2≤(az k).length
    ·exact e
    ·exfalso;have h2:=va (n:=k);have h3:=vb (m:=(az k).length) (n:=1) af;rw[GM]at h3;omega
   exact aj5 m k ((az k).length-2) af af lm
def xe(a b:Int)(hb:b≠0)(ha:Sm a)(nZ:Sm b):aG Tryz.prog 162 [aZ a,aZ b] (.t [(true,av .z (a/b)),(true,av .z (a%b)),(false,[.I .i64 0])]):=by
 refine aX Tryz.func162 ae ae ae ae ae ak ?_;have du:b.natAbs≠0:=af;refine rr ae (aj (rb (rc ae ae (yD b.natAbs) (re ae ?_))));refine ax ae (λh2=>?_) (λh2=>?_)
 ·exfalso;have h2:((az b.natAbs).length:Int)=0:=eq_of_beq h2;have:=nh.2 du;omega
 ·refine aC (ai (rb (rc ae ae (Zr _ _ du ha) (re ae (aj (rb ?_))))));refine rg 26 ae ae (λh3=>?_) (λh3=>?_)
  ·have h3:a<0:=by simpa[bN]using h3
   refine re ae (ax ae (λh4=>?_) (λh4=>?_))
   ·have h4:a.natAbs%b.natAbs≠0:=by have h4:((az (a.natAbs%b.natAbs)).length:Int)>0:=uS;exact nh.1 af
    obtain⟨e1,e2⟩:=Rq (qj du) h3 h4;have hz:bN a=true:=zp;obtain⟨e3,e4⟩:=yw a b (a.natAbs/b.natAbs+1) (b.natAbs-a.natAbs%b.natAbs) zr e2;have hr:a.natAbs%b.natAbs<b.natAbs:=iy _ (qj du);refine rb (rl aE [_] ae ae (rc ae ae (Zh (a.natAbs/b.natAbs) 1 ?_ ak) (re ae (cK (rc ae ae (RU b.natAbs _ af nZ) (re ae (ai (rb ?_))))))))
    ·exact dF (te (DI _ _)) ha
    refine rc ae ae (pP _ _) (rc ae ae (pP _ _) (re ae (aF (aL ar ae (au.of_eq ?_)))));rw[e3,e4];rfl
   ·have h4:a.natAbs%b.natAbs=0:=by have h4:¬((az (a.natAbs%b.natAbs)).length:Int)>0:=uS;exact Decidable.byContradiction λaR=>by have:=nh.2 aR;omega
    obtain⟨e1,e2⟩:=Rp (qj du) h3 h4;have hz:bN a=true:=zp;obtain⟨e3,e4⟩:=yw a b (a.natAbs/b.natAbs) (a.natAbs%b.natAbs) zr (by rw[e2,h4];rfl);refine aC (ai (rb (rc ae ae (pP _ _) (rc ae ae (pP _ _) (re ae (aF (aL ar ae (au.of_eq ?_))))))));rw[e3,e4];rfl
  ·have h3:¬a<0:=by simpa[bN]using h3
   refine re ae (ax ae (λh4=>by simp at h4) (λh4=>?_));obtain⟨e1,e2⟩:=Ro (qj du) h3;have hz:bN a=false:=zp;obtain⟨e3,e4⟩:=yw a b (a.natAbs/b.natAbs) (a.natAbs%b.natAbs) zr e2;refine aC (ai (rb (rc ae ae (pP _ _) (rc ae ae (pP _ _) (re ae (aF (aL ar ae (au.of_eq ?_))))))));rw[e3,e4];rfl
def RZ(m:Nat)(hm:m<18446744073709551616):aG Tryz.prog 255 [cS aE (az m)] (cU m):=by
 refine aX Tryz.func255 ae ae ae ae ae ak ?_;have hl:=Al hm;refine rr ae (rr ae (aj (rr ae ?_)));refine aH (bA (α:=Nat) (λi=>⟨[(0,cS aE (az m)),(3,cU (val ((az m).take i))),(6,cI (az m).length),(7,cI i)],[],4,[]⟩) (λi=>i≤(az m).length) (λi=>(az m).length-i) 0 (bK _) bY ?_);intro i hi;have g:=dd (eK m) i;have hs:=lh (az m) i;have l1:=nX (jY (eK m) i);have l0:=mz (jY (eK m) i);refine rr ae (aj ?_);refine ax ae (λh=>?_) (λh=>?_)
 ·have h:i<(az m).length:=by have h:(i:Int)<((az m).length:Int):=a9 h;omega
  have qA:((az m).take i).length=i:=cT;rw[qA]at l1;refine aC (ai (aj (aH (rr ae (rt ae (hp:=aN) (a6 (ai (rt ae (a8 (i+1) h (by show(az m).length-(i+1)<(az m).length-i;omega) (wk ⟨sR ae,sE ae ?_,sR ae,sR ae,ah⟩ ah))))))))));refine ay (λz=>AV.c (C.I .u64 z)) ?_;have aj':i=0∨i=1:=af;rcases aj' with e|e
  ·subst e;have e1:((32:Int)*((0:Nat):Int))=((0:Nat):Int):=rfl;show IntKind.wrap .u64 ((BitVec.ofInt (IntKind.bits .u64) (val ((az m).take 0))|||BitVec.ofInt (IntKind.bits .u64) (IntKind.wrap .u64 (IntKind.wrap .u64 ((az m).getD 0 0)*2^(min (((0:Nat):Int)).toNat (IntKind.bits .u64))))).toNat:Int)=val ((az m).take (0+1));rw[hs,wrap_u64 ((az m).getD 0 0) af af,As _ 0 g.1 af af];have:=Ci ((az m).getD 0 0*2^0) 0 0 af (by simp[Int.emod_one]) ak ak af;rw[PE];simp only[val];rw[BitVec.or_comm,this];simp
  ·subst e;show IntKind.wrap .u64 ((BitVec.ofInt (IntKind.bits .u64) (val ((az m).take 1))|||BitVec.ofInt (IntKind.bits .u64) (IntKind.wrap .u64 (IntKind.wrap .u64 ((az m).getD 1 0)*2^(min (((32:Nat):Int)).toNat (IntKind.bits .u64))))).toNat:Int)=val ((az m).take (1+1));rw[GM]at l1 hs;rw[hs,wrap_u64 ((az m).getD 1 0) af af,As _ 32 g.1 af af];have:=Ci ((az m).getD 1 0*2^32) (val ((az m).take 1)) 32 af (GD _ _) l0 af af;rw[BitVec.or_comm,this,show(2:Int)^32=4294967296 from ae];omega
 ·have h:i=(az m).length:=by have h:¬(i:Int)<((az m).length:Int):=bC h;omega
  subst h;refine bh (bt (bq (bp (ai (rr ae (aF (aL ar ae (au.of_eq (ay (λz=>AV.c (C.I .u64 z)) ?_)))))))));rw[iK,ff]
def aka(a:Int)(h0:0≤a)(h1:a<9223372036854775808):aG Tryz.prog 232 [aZ a] (.t [(false,[.I .i64 a]),(false,[.B true])]):=by
 refine aX Tryz.func232 ae ae ae ae ae ak ?_;have hn:a.natAbs<18446744073709551616:=af;have hl:=Al hn;have hz:bN a=false:=by simp[bN];omega
 refine rr ae (aj (rr ae (ax ae (λh=>?_) (λ_=>aC (ai ?_)))))
 ·exfalso;have h:((az a.natAbs).length:Int)>2:=a9 h;omega
 refine rb (rc ae ae (RZ a.natAbs hn) (re ae ?_));refine aj (rr ae (ax ae (λh=>?_) (λ_=>aC (ai ?_))))
 ·rw[hz]at h;cases h
 refine aj (rr ae (ax ae (λh=>?_) (λ_=>aC (ai ?_))))
 ·exfalso;have e:decide (((a.natAbs:Nat):Int)≥9223372036854775808)=false:=kC af;rw[e]at h;cases h
 have hr: -9223372036854775808≤((a.natAbs:Nat):Int)∧((a.natAbs:Nat):Int)≤9223372036854775807:=af;refine rr ae (hp:=hr) (aF (aL ar ae (au.of_eq ?_)));exact ay (λx=>AV.t [(false,[C.I .i64 x]),(false,[C.B true])]) af
def akb(a:Int)(ha:Sm a):aG Tryz.prog 157 [aZ a] (cB true):=by
 refine aX Tryz.func157 ae ae ae ae ae ak ?_;have hlen:(az a.natAbs).length≤1099511627776:=ha;have X':(dc a).length≤1099511627776:=ha;refine rr ae (rr ae (aj (rr ae (ax ae (λh=>?_) (λh=>aC (ai ?_))))))
 ·have h:((az a.natAbs).length:Int)=0:=eq_of_beq h;have h0:a=0:=by have:¬0<(az a.natAbs).length:=af;rw[nh]at this;omega
  subst h0;exact rr ae (aF (bS (aL ar ae (au.refl _))))
 ·have h:((az a.natAbs).length:Int)≠0:=kU h;have pM:0<(dc a).length:=by show 0<(az a.natAbs).length;omega
  refine rr ae (hp:=aN) (aF (aL ar ae (au.of_eq ?_)));have hc:=u9 a.natAbs;refine ay cB ?_;rcases hc with e|e
  ·rw[e]at h;simp at h
  ·show((az a.natAbs).getD (((az a.natAbs).length:Int)-1).toNat 0 !=0)=true;rw[show(((az a.natAbs).length:Int)-1).toNat=(az a.natAbs).length-1 by omega];simpa using e
def nH(a:List Int):Nat→Nat
 |0=>0
 |i+1=>nH a i+(a.getD i 0).natAbs
def fk(a:List Int):Nat:=nH a a.length*2^(a.length-1)
def akc{a:Int}(h:cN a<0):a<0:=by unfold cN at h;split at h<;>first|assumption| (split at h<;>omega)
def akd{a:Int}(h:a<0):cN a= -1:=by unfold cN;simp[h]
def xf:Nat→Nat→Nat→Nat→Nat→Nat
 |0,r,_,_,_=>r
 |f+1,r,a,n,p=>if n=0 then r else xf f (if n%2=1 then r*a%p else r) (a*a%p) (n/2) p
def Aw(a n p:Nat):Nat:=xf 64 (1%p) (a%p) n p
def ia(a p:Nat):Nat:=Aw a (p-2) p
def Zs:∀(f r a n p:Nat),0<p→r<p→xf f r a n p<p
 |0,r,_,_,_,_,h=>h
 |f+1,r,a,n,p,hp,h=>by
  unfold xf;split
  ·exact h
  ·refine Zs f _ _ _ _ hp ?_;split
   ·exact iy _ hp
   ·exact h
def R0(a n p:Nat)(hp:0<p):Aw a n p<p:=Zs _ _ _ _ _ hp (iy _ hp)
def lC(x y:Nat):(x:Int).tmod (y:Int)=((x%y:Nat):Int):=by rw[rB af];omega
def H8(x y p:Nat)(hx:x<p)(hy:y<p)(hp:p≤4294967296):(IntKind.wrap .u64 ((x:Int)*(y:Int))).tmod (p:Int)=((x*y%p:Nat):Int):=by have h:x*y<18446744073709551616:=kv (Nat.mul_lt_mul'' hx hy) (dF (my hp hp) ak);rw[←gi,wrap_u64 _ af af,lC]
def Cj(x:Nat)(hx:x<18446744073709551616):(IntKind.wrap .u64 ((x:Int).tdiv 2))=((x/2:Nat):Int):=by
 have e:(x:Int).tdiv 2=((x/2:Nat):Int):=by rw[Be af];omega
 rw[e,wrap_u64 _ af af]
set_option maxHeartbeats 2000000 in
def R1(a n p:Nat)(ha:a<18446744073709551616)(hn:n<18446744073709551616)(cL:0<p)(hp:p≤4294967296):aG Tryz.prog 180 [cU a,cU n,cU p] (cU (Aw a n p)):=by
 refine aX Tryz.func180 ae ae ae ae ae ak ?_;refine rr ae (aj (rr ae ?_));refine ax ae (λh=>?_) (λh=>?_)
 ·exfalso;have h:(p:Int)=0:=cq;omega
 ·have vE:(p:Int)≠0:=by omega
  refine aC (ai (rr ae (aj (rr ae (aH (bA (α:=Nat×Nat×Nat×Nat) (λx=>⟨[(0,cU x.2.2.1),(1,cU x.2.2.2),(2,cU p),(7,cU x.2.1)],[],4,[]⟩) (λx=>xf x.1 x.2.1 x.2.2.1 x.2.2.2 p=Aw a n p∧x.2.2.2<2^x.1∧x.2.1<p∧x.2.2.1<p∧x.2.2.2<18446744073709551616) (λx=>x.2.2.2) (64,1%p,a%p,n) ⟨ae,hn,iy _ cL,iy _ cL,hn⟩ (wk ⟨sE ae ?_,sR ae,sR ae,sE ae ?_,ah⟩ ah) ?_))))))
  ·exact ay (λz=>AV.c (C.I .u64 z)) (lC a p)
  ·exact ay (λz=>AV.c (C.I .u64 z)) (lC 1 p)
  ·rintro⟨f,r,b,m⟩ ⟨hL,hm,hr,hb,pN⟩;simp only at hL hm hr hb pN;refine aj (rr ae ?_);refine ax ae (λh2=>?_) (λh2=>?_)
   ·have h2:(m:Int)>0:=by simpa using h2
    cases f with
    |zero=>rw[xY]at hm;omega
    |succ f=>
     have mJ:m/2<2^f:=by rw[jl]at hm;omega
     rw[xf,aq af]at hL
     refine aC (ai (aj (aH (aj (rr ae ?_)))))
     refine ax ae (λh3=>?_) (λh3=>?_)
     ·have h3:m%2=1:=by have h3:=eq_of_beq h3;have e:(m:Int).tmod 2=((m%2:Nat):Int):=lC m 2;have h4:(m:Int).tmod 2=1:=h3;omega
      rw[aw h3]at hL;refine rt ae (ai (rt ae (a6 (ai (rt ae (a8 (f,r*b%p,b*b%p,m/2) ⟨hL,mJ,iy _ cL,iy _ cL,by show m/2<18446744073709551616;omega⟩ (by show m/2<m;omega) (wk ⟨sE ae ?_,sE ae ?_,sR ae,sE ae ?_,ah⟩ ah)))))))
      ·exact ay (λz=>AV.c (C.I .u64 z)) (H8 b b p hb hb hp)
      ·exact ay (λz=>AV.c (C.I .u64 z)) (Cj m pN)
      ·exact ay (λz=>AV.c (C.I .u64 z)) (H8 r b p hr hb hp)
     ·have h3:¬m%2=1:=by intro e;have e2:(m:Int).tmod 2=((m%2:Nat):Int):=lC m 2;have h4:((m:Int).tmod 2==1)=false:=h3;rw[show(m:Int).tmod 2=1 by omega]at h4;cases h4
      rw[aq h3]at hL;refine aC (ai (rt ae (a6 (ai (rt ae (a8 (f,r,b*b%p,m/2) ⟨hL,mJ,hr,iy _ cL,by show m/2<18446744073709551616;omega⟩ (by show m/2<m;omega) (wk ⟨sE ae ?_,sE ae ?_,sR ae,sR ae,ah⟩ ah)))))))
      ·exact ay (λz=>AV.c (C.I .u64 z)) (H8 b b p hb hb hp)
      ·exact ay (λz=>AV.c (C.I .u64 z)) (Cj m pN)
   ·have h2:¬(m:Int)>0:=by simpa using h2
    have:m=0:=af;subst this;refine bh (bt (bq (bp (ai (rr ae (aF (aL ar ae (au.of_eq ?_))))))));rw[←hL];cases f with
    |zero=>rfl
    |succ f=>rw[xf,aw ae]
def ake(a p:Nat)(ha:a<18446744073709551616)(hz:a%p≠0)(cL:2≤p)(hp:p≤4294967296):aG Tryz.prog 124 [cU a,cU p] (.t [(false,[.I .u64 (ia a p)]),(false,[.I .i64 0])]):=by
 refine aX Tryz.func124 ae ae ae ae ae ak ?_;have vE:(p:Int)≠0:=af;refine rr ae (aj (rb ?_));refine rg 8 ae ae (λh=>?_) (λh=>?_)
 ·exfalso;have h:(p:Int)<2:=cq;omega
 ·refine re ae (ax ae (λh2=>?_) (λh2=>?_))
  ·exfalso;have h2:(a:Int).tmod (p:Int)=0:=gY;rw[lC]at h2;omega
  ·have e:aG Tryz.prog 180 [cU a,.c (num .u64 ((p:Int)-2)).1,cU p] (cU (Aw a (p-2) p)):=by rw[show(AV.c (num .u64 ((p:Int)-2)).1)=cU ((p-2:Nat):Int)from ay (λx=>AV.c (C.I .u64 x)) ((wrap_u64 _ af af).trans af)];exact R1 a (p-2) p ha af af hp
   exact aC (ai (rb (rc ae ae e (re ae (aF (aL ar ae (au.refl _)))))))
def aP(xs:List Int)(p:Int):AV:= .a [.S aM xs,.I .u64 p]
def Zt{ws:List Int}{k:Nat}(iR:iM ws k=iM ws ws.length)(h1:k=0∨ws.getD (k-1) 0≠0):ws.take k=a7 ws:=by
 unfold a7;rw[←iR];cases k with
 |zero=>rfl
 |succ k=>
  rcases h1 with h1|h1
  ·omega
  ·simp only[iY]at h1;simp only[iM,h1,cV]
set_option maxHeartbeats 1000000 in
def ER(ws:List Int)(p:Int)(hb:ws.length≤1000000):aG Tryz.prog 123 [aP ws p] (aP (a7 ws) p):=by
 refine aX Tryz.func123 ae ae ae ae ae ak ?_;refine rr ae (rr ae ?_);refine aj (aH (bA (α:=Nat) (λk=>⟨[(1,.c (.P 0 0)),(2,.c (.P 1000 0)),(3,cI k)],[(0,.box 101 0 [.S aM ws,.I .u64 p]),(1000,.box 101 0 [.V (.slice none 0 0),.I .u64 0])],2,[]⟩) (λk=>k≤ws.length∧iM ws k=iM ws ws.length) (λk=>k) ws.length ⟨bD _,ae⟩ (wk ⟨sR ae,sR ae,sR ae,ah⟩ ⟨bE ae ae,bE ae ae,ah⟩) ?_));rintro k ⟨hk,iR⟩;refine aj (rb ?_);refine rg 9 ae ae (λh=>?_) (λh=>?_)
 ·simp at h;refine re ae (ax ae (λh2=>?_) (λh2=>?_))
  ·refine aC (ai (aH (rt ae (a6 (a8 (k-1) ⟨by omega,?_⟩ (by show k-1<k;omega) (wk ⟨sR ae,sR ae,sE ae ?_,ah⟩ ⟨bE ae ae,bE ae ae,ah⟩))))))
   ·rw[←iR];obtain⟨j,rfl⟩:∃j,k=j+1:=⟨k-1,by omega⟩;have h3:ws.getD j 0=0:=by have:(((j+1:Nat):Int)-1).toNat=j:=af;simpa[this]using h2
    simp only[iY,iM,h3,cP]
   ·congr 2;omega
  ·refine bh (bt (bq (bp (ai (rr ae (aF (aL ar ae (au.of_eq ?_))))))));refine ay (aP · p) ?_;rw[←Zt iR (.inr ?_)]
   ·simp
   ·have:((k:Int)-1).toNat=k-1:=by omega
    simpa[this]using h2
 ·simp at h;subst h;refine re ae (ax ae (λh2=>by simp at h2) (λ_=>?_));refine bh (bt (bq (bp (ai (rr ae (aF (aL ar ae (au.of_eq ?_))))))));exact ay (aP · p) (Zt iR (.inl ae))
def rp(p:Int)(r:List Int):Prop:=∀i,0≤r.getD i 0∧r.getD i 0<p
def H9{p:Int}{r:List Int}(h:rp p r)(i:Nat){x:Int}(h0:0≤x)(h1:x<p):rp p (r.set i x):=by
 intro j;have:=h j;simp only[aU,GC]at this⊢;split
 ·split
  ·exact⟨h0,h1⟩
  ·rename_i e1 e2;simp only[Option.getD_none];exact⟨jB _,by omega⟩
 ·exact this
def R2{p:Int}(hp:0<p)(n:Nat):rp p (List.replicate n 0):=by
 intro j;simp only[aU,mU];split
 ·exact⟨jB _,hp⟩
 ·exact⟨jB _,hp⟩
def vF(a b:List Int)(p:Int)(i:Nat):Nat→List Int→List Int
 |0,r=>r
 |j+1,r=>(vF a b p i j r).set (i+j) (((vF a b p i j r).getD (i+j) 0+a.getD i 0*b.getD j 0)%p)
def qO(a b:List Int)(p:Int):Nat→List Int
 |0=>List.replicate (a.length+b.length-1) 0
 |i+1=>vF a b p i b.length (qO a b p i)
def L1(a b:List Int)(p:Int)(i:Nat)(r:List Int):∀j,(vF a b p i j r).length=r.length
 |0=>rfl
 |j+1=>by rw[vF,gO,L1 a b p i r j]
def L2(a b:List Int)(p:Int):∀i,(qO a b p i).length=a.length+b.length-1
 |0=>by simp[qO]
 |i+1=>by rw[qO,L1,L2 a b p i]
def R3{a b:List Int}{p:Int}(hp:0<p)(i:Nat){r:List Int}(h:rp p r):∀j,rp p (vF a b p i j r)
 |0=>h
 |j+1=>H9 (R3 hp i h j) _ (gZ _ af) (iv _ hp)
def R4(a b:List Int){p:Int}(hp:0<p):∀i,rp p (qO a b p i)
 |0=>R2 hp _
 |i+1=>R3 hp i (R4 a b hp i) _
def eD(a b:List Int)(p:Int):List Int:=if a=[]∨b=[]then[]else a7 (qO a b p a.length)
def Zu(x y z p:Int)(hx:0≤x∧x<p)(hy:0≤y∧y<p)(hz:0≤z∧z<p)(hp:p≤2147483648):(IntKind.wrap .u64 (x+IntKind.wrap .u64 (y*z))).tmod p=(x+y*z)%p:=by have h0:0≤y*z:=jX hy.1 hz.1;have h1:y*z≤2147483648*2147483648:=Bo af af hz.1 af;rw[wrap_u64 (y*z) h0 af,wrap_u64 _ af af,rB af]
def au.trans{x y z:AV}(h:au x y)(k:au y z):au x z:=⟨λg v e=>k.1 g v (h.1 g v e),λid e=>h.2 id (k.2 id e)⟩
def au.a2{x x' y:C}(h:au (.c x) (.c x')):au (.a [x,y]) (.a [x',y]):=by
 refine⟨?_,?_⟩
 ·rintro g v ⟨vs,rfl,v1,r,rfl,h1,h2⟩;exact⟨_,ae,v1,r,ae,h.1 g v1 h1,h2⟩
 ·intro id al;have h2:=h.2 id;simp only[AV.aD,cD,kB,b6]at al h2⊢;exact al.elim (λh=> .inl (h2 h)) .inr
set_option maxHeartbeats 2000000 in
def Ia(a b:List Int)(p:Int)(la:a.length≤1000)(lb:b.length≤1000)(cL:0<p)(hp:p≤2147483648)(ha:rp p a)(hb:rp p b):aG Tryz.prog 94 [aP a p,aP b p] (aP (eD a b p) p):=by
 refine aX Tryz.func94 ae ae ae ae ae ak ?_;have vE:p≠0:=af;refine rr ae (aj (rb ?_));have fin:a=[]∨b=[]→aP [] p=aP (eD a b p) p:=λh=>by rw[eD,aw h]
 refine rg 12 ae ae (λh=>?_) (λh=>?_)
 ·have h:a=[]:=by simpa using h
  refine re ae (ax ae (λh2=>?_) (λh2=>by simp at h2));exact rr ae (aF (bS (aL ar ae (au.trans (au.a2 (au.nil aM)) (au.of_eq (fin (.inl h)))))))
 ·have h:a≠[]:=by simpa using h
  refine re ae (ax ae (λh2=>?_) (λh2=>?_))
  ·have h2:b=[]:=by simpa using h2
   exact rr ae (aF (bS (aL ar ae (au.trans (au.a2 (au.nil aM)) (au.of_eq (fin (.inr h2)))))))
  ·have h2:b≠[]:=by simpa using h2
   have pa:=cZ.2 h;have pb:=cZ.2 h2;refine aC (ai (rb ?_));refine rm aM (a.length+b.length-1) ae ae ae ae ae ae (lU .u64) af ?_ ?_ ?_
   ·show _*8≤_;omega
   ·show _*1≤_;omega
   refine re ae (aj (rr ae ?_));refine aH (bA (α:=Nat) (λi=>⟨[(2,.c (.P 0 0)),(3,.c (.P 1000 0)),(4,.c (.P 2000 0)),(5,.c (.X 2008000)),(32,cI a.length),(33,cI i)],[(0,.box 101 0 [.S aM a,.I .u64 p]),(1000,.box 101 0 [.S aM b,.I .u64 p]),(2000,.box 101 0 [.V (.slice none 0 0),.I .u64 0]),(2008000,.vec 25 aM (qO a b p i))],4,[]⟩) (λi=>i≤a.length) (λi=>a.length-i) 0 (bK _) (wk ⟨sR ae,sR ae,sR ae,sR ae,sR ae,sR ae,ah⟩ ⟨bE ae ae,bE ae ae,bE ae ae,bE ae ae,ah⟩) ?_);intro i hi;have ES:=L2 a b p i;refine rr ae (aj ?_);refine ax ae (λh3=>?_) (λh3=>?_)
   ·have h3:i<a.length:=by simpa using h3
    refine aC (ai (aj (aH (rr ae (rr ae ?_)))));refine aH (bA (α:=Nat) (λj=>⟨[(2,.c (.P 0 0)),(3,.c (.P 1000 0)),(4,.c (.P 2000 0)),(5,.c (.X 2008000)),(6,cI i),(32,cI a.length),(33,cI i),(38,cI b.length),(39,cI j)],[(0,.box 101 0 [.S aM a,.I .u64 p]),(1000,.box 101 0 [.S aM b,.I .u64 p]),(2000,.box 101 0 [.V (.slice none 0 0),.I .u64 0]),(2008000,.vec 25 aM (vF a b p i j (qO a b p i)))],7,[]⟩) (λj=>j≤b.length) (λj=>b.length-j) 0 (bK _) (wk ⟨sR ae,sR ae,sR ae,sR ae,sR ae,sR ae,sR ae,sR ae,sR ae,ah⟩ ⟨bE ae ae,bE ae ae,bE ae ae,bE ae ae,ah⟩) ?_);intro j hj;have R5:=L1 a b p i (qO a b p i) j;refine rr ae (aj ?_);refine ax ae (λh4=>?_) (λh4=>?_)
    ·have h4:j<b.length:=by simpa using h4
     have ga:=ha i;have gb:=hb j;have gr:=R3 cL (a:=a) (b:=b) i (R4 a b cL i) j (i+j);have yE:((i:Int)+(j:Int)).toNat=i+j:=af;refine aC (ai (aj (aH (rr ae (rt ae ?_ (hp:=jT))))));refine a6 (ai (rt ae (a8 (j+1) h4 Pa (wk ⟨sR ae,sR ae,sR ae,sR ae,sR ae,sR ae,sR ae,sR ae,sR ae,ah⟩ ⟨bE ae ae,bE ae ae,bE ae ae,bE ae ?_,ah⟩))));rw[vF,yE,←Zu _ _ _ p gr ga gb hp];rfl
    ·have h4:¬j<b.length:=by simpa using h4
     have e:j=b.length:=af;subst e;refine bh (bt (bq (bp (a6 (ai (rt ae (a8 (i+1) h3 oF (wk ⟨sR ae,sR ae,sR ae,sR ae,sR ae,sR ae,ah⟩ ⟨bE ae ae,bE ae ae,bE ae ae,bE ae ae,ah⟩))))))))
   ·have h3:¬i<a.length:=by simpa using h3
    have e:i=a.length:=af;subst e;refine bh (bt (bq (bp (ai (fY 2008000 ae ae ae (rb (rc ae ae (ER (qO a b p a.length) p af) (re ae (aF (aL ar ae (au.of_eq ?_)))))))))));rw[eD,aq (λe=>e.elim h h2)];rfl
def akf(x:Int)(ws:List Int)(hl:ws.length≤1000000):m9 Tryz.prog 181 [cS aM (x::ws)] 25 aM (x::ws):=by
 refine Af Tryz.func181 ae ae ae ae ak ?_;refine rr ae (aj (rb (rx ae ae ah (re ae ?_))));refine ax ae (λh=>by simp at h) (λh=>?_);refine aC (ai (rb (yr aM [] ae ae (ra ae ae ae ae ae ae ae ae ae ?_ ?_ (re ae (aF (yu (id:=2002000) ar ae ae)))))))
 ·show(_+(_+1)+(_+(_+1))/4+192)*8≤_;simp only[mr];omega
 ·show(_+(_+1))*1≤_;simp only[mr];omega
def uv(ws:List Int)(p:Int)(hl:ws.length≤1000000):aG Tryz.prog 93 [aP ws p] (cI ((ws.length:Int)-1)):=by refine aX Tryz.func93 ae ae ae ae ae ak ?_;exact rr ae (rr ae (aF (aL ar ae (au.refl _))))
def vG(b:List Int)(p c:Int)(i:Nat):Nat→List Int→List Int
 |0,r=>r
 |j+1,r=>(vG b p c i j r).set (i+j) (((vG b p c i j r).getD (i+j) 0+(p-c)*b.getD j 0)%p)
def iT(a b:List Int)(p v:Int)(m n:Nat):Nat→List Int×List Int
 |0=>(List.replicate m 0,a)
 |k+1=>((iT a b p v m n k).1.set (m-(k+1)) ((iT a b p v m n k).2.getD (m-(k+1)+n) 0*v%p),vG b p ((iT a b p v m n k).2.getD (m-(k+1)+n) 0*v%p) (m-(k+1)) b.length (iT a b p v m n k).2)
def L3(b:List Int)(p c:Int)(i:Nat)(r:List Int):∀j,(vG b p c i j r).length=r.length
 |0=>rfl
 |j+1=>by rw[vG,gO,L3 b p c i r j]
def R6{b:List Int}{p c:Int}(hp:0<p)(i:Nat){r:List Int}(h:rp p r):∀j,rp p (vG b p c i j r)
 |0=>h
 |j+1=>H9 (R6 hp i h j) _ (gZ _ af) (iv _ hp)
def L4(a b:List Int)(p v:Int)(m n:Nat):∀k,(iT a b p v m n k).1.length=m∧(iT a b p v m n k).2.length=a.length
 |0=>by simp[iT]
 |k+1=>by have:=L4 a b p v m n k;simp only[iT,gO,L3];exact this
def R7{a:List Int}(b:List Int){p:Int}(v:Int)(m n:Nat)(hp:0<p)(ha:rp p a):∀k,rp p (iT a b p v m n k).1∧rp p (iT a b p v m n k).2
 |0=>⟨R2 hp _,ha⟩
 |k+1=>by have h:=R7 b v m n hp ha k;exact⟨H9 h.1 _ (gZ _ af) (iv _ hp),R6 hp _ h.2 _⟩
def bM(a b:List Int)(p:Int):List Int×List Int:=
 if a.length≤b.length-1 then([],a)
 else(λx=>(x.1,a7 (x.2.take (b.length-1)))) (iT a b p (ia (b.getD (b.length-1) 0).toNat p.toNat:Nat) (a.length-(b.length-1)) (b.length-1) (a.length-(b.length-1)))
def Zv(x y z p:Int)(hx:0≤x∧x<p)(hy:0≤y∧y≤p)(hz:0≤z∧z<p)(hp:p≤2147483648):(IntKind.wrap .u64 (x+IntKind.wrap .u64 (y*z))).tmod p=(x+y*z)%p:=by have h0:0≤y*z:=jX hy.1 hz.1;have h1:y*z≤2147483648*2147483648:=Bo af af hz.1 af;rw[wrap_u64 (y*z) h0 af,wrap_u64 _ af af,rB af]
def R8(y z p:Int)(hy:0≤y∧y<p)(hz:0≤z∧z<p)(hp:p≤2147483648):(IntKind.wrap .u64 (y*z)).tmod p=y*z%p:=by have h0:0≤y*z:=jX hy.1 hz.1;have h1:y*z≤2147483648*2147483648:=Bo af af hz.1 af;rw[wrap_u64 (y*z) h0 af,rB af]
def L5(a p:Int)(ha:0≤a∧a<p)(hz:a≠0)(cL:2≤p)(hp:p≤2147483648):aG Tryz.prog 124 [cU a,cU p] (.t [(false,[.I .u64 (ia a.toNat p.toNat:Nat)]),(false,[.I .i64 0])]):=by have h:=ake a.toNat p.toNat af (by rw[rD af];omega) af af;rwa[DD ha.1,DD (by omega:0≤p)]at h
def au.ta{x x' y:C}{r:List (Bool×List C)}(h:au (.c x) (.c x')):au (.t ((true,[x,y])::r)) (.t ((true,[x',y])::r)):=by
 refine⟨?_,?_⟩
 ·rintro g v ⟨vs,rfl,v1,r1,rfl,⟨us,rfl,v2,r2,rfl,h1,h2⟩,h3⟩;exact⟨_,ae,_,_,ae,⟨_,ae,v2,r2,ae,h.1 g v2 h1,h2⟩,h3⟩
 ·intro id al;have h2:=h.2 id;simp only[AV.aD,fJ,cD,kB,b6]at al h2⊢;rcases al with(al|al)|al
  ·exact .inl (.inl (h2 al))
  ·exact .inl (.inr al)
  ·exact .inr al
set_option maxHeartbeats 4000000 in
def akg(x:Int)(a' b:List Int)(p:Int){a:List Int}(ea:a=x::a')(la:a.length≤1000)(lb:b.length≤1000)(cL:2≤p)(hp:p≤2147483648)(ha:rp p a)(hb:rp p b)(eB:b≠[])(eN:b.getD (b.length-1) 0≠0):aG Tryz.prog 127 [aP a p,aP b p] (.t [(true,[.S aM (bM a b p).1,.I .u64 p]),(true,[.S aM (bM a b p).2,.I .u64 p])]):=by
 refine aX Tryz.func127 ae ae ae ae ae ak ?_;have vE:p≠0:=af;have pb:=cZ.2 eB;have rK:m9 Tryz.prog 181 [cS aM a] 25 aM a:=by rw[ea]at la⊢;exact akf x a' (by simp at la;omega)
 refine rr ae (rb (w9 ae ae rK (re ae (rb (rc ae ae (uv b p af) (re ae (aj (rr ae ?_))))))));refine ax ae (λh=>?_) (λh=>?_)
 ·have h:a.length≤b.length-1:=by have h:(a.length:Int)≤(b.length:Int)-1:=cq;omega
  have e:bM a b p=([],a):=by rw[bM,aw h]
  rw[e];refine rr ae (aF (bS (aL ar ae ?_)));exact au.ta (au.nil aM)
 ·have h:¬a.length≤b.length-1:=by have h:¬(a.length:Int)≤(b.length:Int)-1:=cq;omega
  obtain⟨n,hn⟩:∃n,b.length=n+1:=⟨b.length-1,by omega⟩;obtain⟨m,hm⟩:∃m,a.length=n+m:=⟨a.length-n,by omega⟩;have e:bM a b p=((iT a b p (ia (b.getD n 0).toNat p.toNat:Nat) m n m).1,a7 ((iT a b p (ia (b.getD n 0).toNat p.toNat:Nat) m n m).2.take n)):=by rw[bM,aq h,hn,hm,iY,Gv]
  rw[e];rw[hn,iY]at eN;have en:(b.length:Int)-1=(n:Int):=af;generalize hv:(ia (b.getD n 0).toNat p.toNat:Nat)=v;have RW:(0:Int)≤(v:Int)∧(v:Int)<p:=by have:=R0 (b.getD n 0).toNat (p.toNat-2) p.toNat af;unfold ia at hv;omega
  rw[en];have hinv:=L5 (b.getD n 0) p (hb n) eN cL hp;rw[hv]at hinv;refine aC (ai (rb (rc ae ae hinv (re ae (rb ?_)))));refine rm aM m ae ae ae ae ae ae (lU .u64) af ?_ ?_ ?_
  ·show _*8≤_;omega
  ·show _*1≤_;omega
  refine re ae (aj (rr ae ?_));refine aH (bA (α:=Nat) (λk=>⟨[(2,.c (.P 0 0)),(3,.c (.P 1000 0)),(4,.c (.P 2000 0)),(5,.c (.P 3000 0)),(6,.c (.X 1002000)),(7,cI n),(8,cU v),(10,.c (.X 5004000)),(11,cI ((m:Int)-1-k))],[(0,.box 101 0 [.S aM a,.I .u64 p]),(1000,.box 101 0 [.S aM b,.I .u64 p]),(2000,.box 101 0 [.V (.slice none 0 0),.I .u64 0]),(3000,.box 101 0 [.V (.slice none 0 0),.I .u64 0]),(1002000,.vec 25 aM (iT a b p v m n k).2),(5004000,.vec 25 aM (iT a b p v m n k).1)],7,[]⟩) (λk=>k≤m) (λk=>m-k) 0 (bK _) (wk ⟨sR ae,sR ae,sR ae,sR ae,sR ae,sR ae,sR ae,sR ae,sE ae ?_,ah⟩ ⟨bE ae ae,bE ae ae,bE ae ae,bE ae ae,bE ae ae,bE ae ae,ah⟩) ?_)
  ·exact ay cI (by simp only[jy];omega)
  intro k hk;have LZ:=L4 a b p v m n k;have BD:=R7 b v m n af ha k;refine aj (rr ae ?_);refine ax ae (λh3=>?_) (λh3=>?_)
  ·have h3:k<m:=by have h3:(m:Int)-1-k≥0:=xM;omega
   obtain⟨i,hi⟩:∃i,m=i+(k+1):=⟨m-(k+1),by omega⟩;have ei:(m:Int)-1-k=(i:Int):=af;have Zw:m-(k+1)=i:=af;rw[ei];have ein:((i:Int)+(n:Int)).toNat=i+n:=af;generalize hc:(iT a b p v m n k).2.getD (i+n) 0*v%p=c;have BE:0≤c∧c<p:=by rw[←hc];exact⟨gZ _ af,iv _ af⟩
   have lW:=BD.2 (i+n);refine aC (ai (aj (aH (rr ae (hp:=jT) (rr ae ?_)))));refine aH (bA (α:=Nat) (λj=>⟨[(2,.c (.P 0 0)),(3,.c (.P 1000 0)),(4,.c (.P 2000 0)),(5,.c (.P 3000 0)),(6,.c (.X 1002000)),(7,cI n),(8,cU v),(10,.c (.X 5004000)),(11,cI i),(65,cI b.length),(66,cI j)],[(0,.box 101 0 [.S aM a,.I .u64 p]),(1000,.box 101 0 [.S aM b,.I .u64 p]),(2000,.box 101 0 [.V (.slice none 0 0),.I .u64 0]),(3000,.box 101 0 [.V (.slice none 0 0),.I .u64 0]),(1002000,.vec 25 aM (vG b p c i j (iT a b p v m n k).2)),(5004000,.vec 25 aM ((iT a b p v m n k).1.set i c))],10,[]⟩) (λj=>j≤b.length) (λj=>b.length-j) 0 (bK _) (wk ⟨sR ae,sR ae,sR ae,sR ae,sR ae,sR ae,sR ae,sR ae,sR ae,sR ae,sR ae,ah⟩ ⟨bE ae ae,bE ae ae,bE ae ae,bE ae ae,bE ae ae,bE ae ?_,ah⟩) ?_)
   ·rw[←hc,←R8 _ _ p lW RW hp,←ein];rfl
   intro j hj;have R5:=L3 b p c i (iT a b p v m n k).2 j;have L6:=R6 (b:=b) (p:=p) (c:=c) af i BD.2 j (i+j);refine rr ae (aj ?_);refine ax ae (λh4=>?_) (λh4=>?_)
   ·have h4:j<b.length:=by simpa using h4
    have gb:=hb j;have yE:((i:Int)+(j:Int)).toNat=i+j:=af;have L7:((iT a b p v m n k).1.set i c).getD i 0=c:=by rw[aU,List.getElem?_set_self af];rfl
    have tj:((iT a b p v m n k).1.set i c).length=m:=by rw[gO];exact LZ.1
    refine aC (ai (aj (aH (rr ae (rt ae ?_ (hp:=jT))))));refine a6 (ai (rt ae (a8 (j+1) h4 Pa (wk ⟨sR ae,sR ae,sR ae,sR ae,sR ae,sR ae,sR ae,sR ae,sR ae,sR ae,sR ae,ah⟩ ⟨bE ae ae,bE ae ae,bE ae ae,bE ae ae,bE ae ?_,bE ae ae,ah⟩))));rw[vG,yE,←Zv _ (p-c) _ p L6 af gb hp];have e2:IntKind.wrap .u64 (p-((iT a b p v m n k).1.set i c).getD (i:Int).toNat 0)=p-c:=by rw[bu,L7,wrap_u64 _ af af]
    rw[←e2];rfl
   ·have h4:¬j<b.length:=by simpa using h4
    have e:j=b.length:=af;subst e;refine bh (bt (bq (bp (a6 (ai (rt ae (a8 (k+1) h3 (by show m-(k+1)<m-k;omega) (wk ⟨sR ae,sR ae,sR ae,sR ae,sR ae,sR ae,sR ae,sR ae,sE ae ?_,ah⟩ ⟨bE ae ae,bE ae ae,bE ae ae,bE ae ae,bE ae ?_,bE ae ?_,ah⟩))))))))
    ·exact ay cI af
    ·rw[iT,Zw,hc]
    ·rw[iT,Zw,hc]
  ·have h3:¬k<m:=by have h3:¬(m:Int)-1-k≥0:=xM;omega
   have e:k=m:=af;subst e;refine bh (bt (bq (bp (ai (fY 1002000 ae ae ae (fY 5004000 ae ae ae (rb (rc ae ae (ER ((iT a b p v k n k).2.take n) p zt) (re ae (aF (aL ar ae (au.refl _))))))))))))
end Go.El
namespace Go.El
def sm(f:Nat→Int):Nat→Int
 |0=>0
 |k+1=>sm f k+f k
def L8(A B:Nat→Int)(n:Nat):∀k,Ap A B n k=sm (λi=>A i*B (n-i)) k
 |0=>rfl
 |k+1=>by rw[Ap,sm,L8 A B n k]
def fZ{f g:Nat→Int}:∀{k:Nat},(∀i,i<k→f i=g i)→sm f k=sm g k
 |0,_=>rfl
 |k+1,h=>by rw[sm,sm,fZ (λi hi=>h i af),h k af]
def oe{f:Nat→Int}{k:Nat}(h:∀i,i<k→f i=0):sm f k=0:=by
 induction k with
 |zero=>rfl
 |succ k ih=>rw[sm,ih (λi hi=>h i af),h k af];rfl
def Ck(f g:Nat→Int):∀k,sm (λi=>f i+g i) k=sm f k+sm g k
 |0=>rfl
 |k+1=>by simp only[sm,Ck f g k];omega
def uw(c:Int)(f:Nat→Int):∀k,sm (λi=>c*f i) k=c*sm f k
 |0=>by simp[sm]
 |k+1=>by simp only[sm,uw c f k,px]
def R9(c:Int)(f:Nat→Int)(k:Nat):sm (λi=>f i*c) k=sm f k*c:=by rw[fh,←uw];exact fZ (λi _=>fh _ _)
def Zx(f:Nat→Int):∀k,sm f (k+1)=f 0+sm (λi=>f (i+1)) k
 |0=>by simp[sm]
 |k+1=>by rw[sm,Zx f k,sm];omega
def Zy(f:Nat→Int):∀k,sm f k=sm (λi=>f (k-1-i)) k
 |0=>rfl
 |k+1=>by rw[sm,Zy f k,Zx (λi=>f (k+1-1-i))];have:sm (λi=>f (k+1-1-(i+1))) k=sm (λi=>f (k-1-i)) k:=fZ (λi _=>by congr 1;omega);rw[this,show k+1-1-0=k by omega];omega
def Zz(F:Nat→Nat→Int):∀n,sm (λi=>sm (λj=>F i j) (i+1)) n=sm (λj=>sm (λk=>F (j+k) j) (n-j)) n
 |0=>rfl
 |n+1=>by
  rw[sm,Zz F n];have h1:sm (λj=>sm (λk=>F (j+k) j) (n+1-j)) n=sm (λj=>sm (λk=>F (j+k) j) (n-j)+F n j) n:=by refine fZ (λj hj=>?_);rw[show n+1-j=(n-j)+1 by omega,sm,show j+(n-j)=n by omega]
  rw[show sm (λj=>sm (λk=>F (j+k) j) (n+1-j)) (n+1)=sm (λj=>sm (λk=>F (j+k) j) (n+1-j)) n+sm (λk=>F (n+k) n) (n+1-n)from ae,h1,Ck];rw[show n+1-n=1 by omega,show sm (λj=>F n j) (n+1)=sm (λj=>F n j) n+F n n from ae,show sm (λk=>F (n+k) n) 1=0+F (n+0) n from ae,kg];have e9:sm (λj=>F n j) n=sm (F n) n:=rfl;omega
def PS:Type:=Nat→Int
namespace PS
instance:Add PS:=⟨λA B i=>A i+B i⟩
instance:Mul PS:=⟨λA B=>conv A B⟩
instance:Neg PS:=⟨λA i=> -(A i)⟩
instance:_root_.Sub PS:=⟨λA B i=>A i-B i⟩
instance:OfNat PS 0:=⟨λ_=>(0:Int)⟩
instance:OfNat PS 1:=⟨λi=>if i=0 then(1:Int)else 0⟩
def K(c:Int):PS:=λi=>if i=0 then c else 0
def X(k:Nat):PS:=λi=>if i=k then 1 else 0
def ext{A B:PS}(h:∀i,A i=B i):A=B:=funext h
def fP(A B:PS)(i:Nat):(A+B) i=A i+B i:=rfl
def L9(A:PS)(i:Nat):(-A) i= -(A i):=rfl
def EU(A B:PS)(i:Nat):(A-B) i=A i-B i:=rfl
def lZ(i:Nat):(0:PS) i=0:=rfl
def gW(A B:PS)(n:Nat):(A*B) n=sm (λi=>A i*B (n-i)) (n+1):=L8 A B n (n+1)
def add_comm(A B:PS):A+B=B+A:=ext λi=>xX _ _
def add_assoc(A B C:PS):A+B+C=A+(B+C):=ext λi=>Int.add_assoc _ _ _
def zero_add(A:PS):0+A=A:=ext λi=>Br _
def add_zero(A:PS):A+0=A:=ext λi=>nq _
def add_neg(A:PS):A+ -A=0:=ext λi=>Int.add_right_neg _
def Sa(A:PS): -A+A=0:=ext λi=>Int.add_left_neg _
def sub_def(A B:PS):A-B=A+ -B:=ext λi=>Ps
def neg_zero: -(0:PS)=0:=rfl
def neg_add(A B:PS): -(A+B)= -A+ -B:=ext λi=>Int.neg_add
def mul_comm(A B:PS):A*B=B*A:=by
 refine ext λn=>?_
 rw[gW,gW,Zy];refine fZ (λi hi=>?_);rw[fh];congr 1<;>congr 1<;>omega
def mul_add(A B C:PS):A*(B+C)=A*B+A*C:=by
 refine ext λn=>?_
 rw[fP,gW,gW,gW,←Ck];exact fZ (λi _=>by rw[fP,px])
def add_mul(A B C:PS):(A+B)*C=A*C+B*C:=by rw[mul_comm,mul_add,mul_comm C A,mul_comm C B]
def mul_assoc(A B C:PS):A*B*C=A*(B*C):=by
 refine ext λn=>?_
 rw[gW,gW];have h1:sm (λi=>(A*B) i*C (n-i)) (n+1)=sm (λi=>sm (λj=>A j*B (i-j)*C (n-i)) (i+1)) (n+1):=fZ (λi _=>by rw[gW,R9]);rw[h1,Zz (λi j=>A j*B (i-j)*C (n-i))];refine fZ (λj hj=>?_);rw[gW,←uw,show n+1-j=n-j+1 by omega];refine fZ (λk hk=>?_);rw[ke,show j+k-j=k by omega,show n-(j+k)=n-j-k by omega]
def mul_zero(A:PS):A*0=0:=by
 refine ext λn=>?_
 rw[gW];exact oe (λi _=>by rw[lZ,et])
def zero_mul(A:PS):0*A=0:=by rw[mul_comm,mul_zero]
def qP(k:Nat)(A:PS)(i:Nat):(X k*A) i=if k≤i then A (i-k)else 0:=by
 rw[gW];by_cases h:k≤i
 ·rw[aw h];have e:sm (λj=>X k j*A (i-j)) (i+1)=X k k*A (i-k):=by have:=RR (X k) A i k (i+1) af (λj _ hj=>by simp[X,hj]);exact(L8 (X k) A i (i+1)).symm.trans this
  rw[e];simp[X]
 ·rw[aq h];exact oe (λj hj=>by simp[X,show j≠k by omega])
def gw(c:Int)(A:PS)(i:Nat):(K c*A) i=c*A i:=by rw[gW];have:=RR (K c) A i 0 (i+1) af (λj _ hj=>by simp[K,hj]);rw[show sm (λj=>K c j*A (i-j)) (i+1)=K c 0*A (i-0)from(L8 (K c) A i (i+1)).symm.trans this];simp[K]
def EV:(1:PS)=K 1:=rfl
def mK:K 0=0:=ext λi=>by simp[K,lZ]
def one_mul(A:PS):1*A=A:=ext λi=>by rw[EV,gw,ja]
def mul_one(A:PS):A*1=A:=by rw[mul_comm,one_mul]
def neg_eq(A:PS): -A=K (-1)*A:=ext λi=>by rw[gw,L9];omega
def neg_mul(A B:PS): -A*B= -(A*B):=by rw[neg_eq,neg_eq (A*B),mul_assoc]
def mul_neg(A B:PS):A* -B= -(A*B):=by rw[mul_comm,neg_mul,mul_comm B A]
def qQ(a b:Int):K (a+b)=K a+K b:=ext λi=>by rw[fP];unfold K;split<;>rfl
def tk(a b:Int):K (a*b)=K a*K b:=ext λi=>by rw[gw];unfold K;split<;>simp
def L'(j k:Nat):X (j+k)=X j*X k:=ext λi=>by
 rw[qP];unfold X;by_cases h:j≤i
 ·rw[aw h];by_cases h2:i=j+k
  ·rw[aw h2,aw af]
  ·rw[aq h2,aq af]
 ·rw[aq h,aq af]
instance:Std.Associative (α:=PS) (·+·):=⟨add_assoc⟩
instance:Std.Commutative (α:=PS) (·+·):=⟨add_comm⟩
instance:Std.Associative (α:=PS) (·*·):=⟨mul_assoc⟩
instance:Std.Commutative (α:=PS) (·*·):=⟨mul_comm⟩
end PS
def ps(a:List Int):PS:=λi=>a.getD i 0
def dV(a:List Int)(i:Nat):ps a i=a.getD i 0:=rfl
def Cg(m:Int)(A B:PS):Prop:=∃U:PS,A=B+PS.K m*U
def Cg.at{m:Int}{A B:PS}(h:Cg m A B)(i:Nat):A i%m=B i%m:=by obtain⟨U,rfl⟩:=h;rw[PS.fP,PS.gw];exact Kp _ _ _
def Cg.of{m:Int}{A B:PS}(h:∀i,A i%m=B i%m):Cg m A B:=by
 let U:PS:=λi=>A i/m-B i/m
 refine⟨U,PS.ext λi=>?_⟩;have h1:=pq (A i) m;have h2:=pq (B i) m;have:=h i;have e:U i=A i/m-B i/m:=rfl;rw[PS.fP,PS.gw,e,KN];omega
def Cg.dvd{m:Int}{A B:PS}(h:Cg m A B)(i:Nat):m∣A i-B i:=by obtain⟨U,rfl⟩:=h;rw[PS.fP,PS.gw];exact⟨U i,by omega⟩
def Cg.ZA{m:Int}{A B:PS}(h:∀i,m∣A i-B i):Cg m A B:=Cg.of λi=>Bb.2 (Dx (h i))
def Cg.refl(m:Int)(A:PS):Cg m A A:=⟨0,by rw[PS.mul_zero,PS.add_zero]⟩
def Cg.of_eq{m:Int}{A B:PS}(h:A=B):Cg m A B:=h▸Cg.refl m A
def Cg.symm{m:Int}{A B:PS}(h:Cg m A B):Cg m B A:=Cg.of λi=>(h.at i).symm
def Cg.trans{m:Int}{A B C:PS}(h:Cg m A B)(k:Cg m B C):Cg m A C:=Cg.of λi=>(h.at i).trans (k.at i)
def Cg.add{m:Int}{A B C D:PS}(h:Cg m A B)(k:Cg m C D):Cg m (A+C) (B+D):=by obtain⟨U,rfl⟩:=h;obtain⟨V,rfl⟩:=k;exact⟨U+V,by rw[PS.mul_add];ac_rfl⟩
def Cg.neg{m:Int}{A B:PS}(h:Cg m A B):Cg m (-A) (-B):=by obtain⟨U,rfl⟩:=h;exact⟨-U,by rw[PS.neg_add,PS.mul_neg]⟩
def Cg.sub{m:Int}{A B C D:PS}(h:Cg m A B)(k:Cg m C D):Cg m (A-C) (B-D):=by rw[PS.sub_def,PS.sub_def];exact h.add k.neg
def Cg.mul{m:Int}{A B C D:PS}(h:Cg m A B)(k:Cg m C D):Cg m (A*C) (B*D):=by obtain⟨U,rfl⟩:=h;obtain⟨V,rfl⟩:=k;refine⟨B*V+U*D+PS.K m*U*V,?_⟩;simp only[PS.mul_add,PS.add_mul];ac_rfl
def Cg.vH{m:Int}(A:PS){C D:PS}(k:Cg m C D):Cg m (A*C) (A*D):=(Cg.refl m A).mul k
def Cg.qR{m:Int}{A B:PS}(k:Cg m A B)(C:PS):Cg m (A*C) (B*C):=k.mul (Cg.refl m C)
def Cg.Sb{m:Int}(A:PS){C D:PS}(k:Cg m C D):Cg m (A+C) (A+D):=(Cg.refl m A).add k
def Cg.oW{m:Int}{A B:PS}(k:Cg m A B)(C:PS):Cg m (A+C) (B+C):=k.add (Cg.refl m C)
def Cg.K{m a b:Int}(h:a%m=b%m):Cg m (PS.K a) (PS.K b):=Cg.of λi=>by
 unfold PS.K;split
 ·exact h
 ·rfl
def Cg.Km(m:Int):Cg m (PS.K m) 0:=⟨1,by rw[PS.mul_one,PS.zero_add]⟩
def Cg.up{m n:Int}{A B:PS}(h:Cg n A B):Cg (m*n) (PS.K m*A) (PS.K m*B):=by obtain⟨U,rfl⟩:=h;refine⟨U,?_⟩;rw[PS.mul_add,PS.tk,PS.mul_assoc]
def Dl(p:Int)(n:Nat)(A:PS):Prop:=∀i,n≤i→A i%p=0
def Dl.cg{p:Int}{n:Nat}{A B:PS}(h:Dl p n A)(k:Cg p A B):Dl p n B:=λi hi=>by rw[←k.at i];exact h i hi
def Dl.le{p:Int}{n m:Nat}{A:PS}(h:Dl p n A)(k:n≤m):Dl p m A:=λi hi=>h i af
def Dl.add{p:Int}{n:Nat}{A B:PS}(h:Dl p n A)(k:Dl p n B):Dl p n (A+B):=λi hi=>by rw[PS.fP,u5,h i hi,k i hi];rfl
def Dl.neg{p:Int}{n:Nat}{A:PS}(h:Dl p n A):Dl p n (-A):=λi hi=>by rw[PS.L9];exact Dx (Int.dvd_neg.2 (Dy (h i hi)))
def Dl.sub{p:Int}{n:Nat}{A B:PS}(h:Dl p n A)(k:Dl p n B):Dl p n (A-B):=by rw[PS.sub_def];exact h.add k.neg
def ZC{p:Int}{f:Nat→Int}{k:Nat}(h:∀i,i<k→f i%p=0):sm f k%p=0:=by
 induction k with
 |zero=>exact dk _
 |succ k ih=>rw[sm,u5,ih (λi hi=>h i af),h k af];rfl
def Ma{p a b:Int}(h:a%p=0):a*b%p=0:=by rw[mY,h,kO,dk]
def Mb{p a b:Int}(h:b%p=0):a*b%p=0:=by rw[fh];exact Ma h
def Dl.mul{p:Int}{n m:Nat}{A B:PS}(h:Dl p (n+1) A)(k:Dl p m B):Dl p (n+m) (A*B):=λi hi=>by
 rw[PS.gW];refine ZC (λj hj=>?_);by_cases jC:n+1≤j
 ·exact Ma (h j jC)
 ·exact Mb (k (i-j) af)
def Dl.mul'{p:Int}{n m:Nat}{A B:PS}(h:Dl p n A)(k:Dl p m B):Dl p (n+m) (A*B):=by
 cases n with
 |zero=>
  intro i hi
  rw[PS.gW]
  exact ZC (λj hj=>Ma (h j (bK _)))
 |succ n=>exact(h.mul k).le af
def Dl.top{p:Int}{n m:Nat}{A B:PS}(h:Dl p (n+1) A)(k:Dl p (m+1) B):(A*B) (n+m)%p=A n*B m%p:=by
 rw[PS.gW];have:∀r,r≤n+m+1→sm (λi=>A i*B (n+m-i)) r%p=if n<r then A n*B m%p else 0:=by
  intro r hr;induction r with
  |zero=>simp[sm]
  |succ r ih=>
   rw[sm,u5,ih af]
   by_cases h1:n<r
   ·rw[aw h1,aw af,Ma (h r af),nq,k8]
   ·rw[aq h1];by_cases h2:n=r
    ·subst h2;rw[aw af,Br,k8,show n+m-n=m by omega]
    ·rw[aq af,Mb (k _ af)];rfl
 rw[this _ (bD _),aw af]
def aki{p:Int}{A:PS}(h:Dl p 0 A):Cg p A 0:=Cg.of λi=>by rw[h i (bK _),PS.lZ,dk]
def kl(p:Int)(a:List Int):Dl p a.length (ps a):=λi hi=>by rw[dV,aU,nn hi];simp
def akj(p:Int)(k:Nat):Dl p (k+1) (PS.X k):=λi hi=>by unfold PS.X;rw[aq af];simp
def Sd(p c:Int):Dl p 1 (PS.K c):=λi hi=>by unfold PS.K;rw[aq af];simp
def Cl(p:Int)(n:Nat):Dl p n 0:=λi _=>by rw[PS.lZ,dk]
def Mc(p:Int):Dl p 1 1:=Sd p 1
def dN(p:Nat):Prop:=2≤p∧∀d,2≤d→d*d≤p→p%d≠0
def dN.xg{p d:Nat}(h:dN p)(hd:d∣p):d=1∨d=p:=by
 obtain⟨e,he⟩:=hd;have h2:=h.1;have d0:d≠0:=by intro e0;subst e0;simp at he;omega
 have e0:e≠0:=by intro e0;subst e0;simp at he;omega
 by_cases d1:d=1
 ·exact .inl d1
 by_cases e1:e=1
 ·subst e1;right;omega
 exfalso;by_cases hde:d≤e
 ·exact h.2 d af (by rw[he];exact lJ d hde) (by rw[he];exact Nat.mul_mod_right d e)
 ·exact h.2 e af (by rw[he];exact eJ e af) (by rw[he];exact Nat.mul_mod_left d e)
def dN.coprime{p a:Nat}(h:dN p)(ha:¬p∣a):Nat.Coprime p a:=by
 rcases h.xg (Nat.gcd_dvd_left p a)with e|e
 ·exact e
 ·exact absurd (e▸WT p a) ha
def dN.dvd_mul{p a b:Nat}(h:dN p)(hd:p∣a*b):p∣a∨p∣b:=by
 by_cases ha:p∣a
 ·exact .inl ha
 ·exact .inr ((h.coprime ha).dvd_of_dvd_mul_left hd)
def dN.Se{p:Nat}{a b:Int}(h:dN p)(hd:(p:Int)∣a*b):(p:Int)∣a∨(p:Int)∣b:=by
 have:p∣a.natAbs*b.natAbs:=by rw[←uZ];have:=Kv.2 hd;rwa[pt]at this
 rcases h.dvd_mul this with e|e
 ·exact .inl (Kv.1 (by rwa[pt]))
 ·exact .inr (Kv.1 (by rwa[pt]))
def dN.oX{p:Nat}{a b:Int}(h:dN p)(ha:a%(p:Int)≠0)(hb:b%(p:Int)≠0):a*b%(p:Int)≠0:=λe=>by
 rcases h.Se (Dy e)with e|e
 ·exact ha (Dx e)
 ·exact hb (Dx e)
def ch:Nat→Nat→Nat
 |_,0=>1
 |0,_+1=>0
 |n+1,k+1=>ch n k+ch n (k+1)
def tl(n:Nat):ch n 0=1:=by cases n<;>rfl
def Ax:∀(n k:Nat),n<k→ch n k=0
 |0,0,h=>by omega
 |0,k+1,_=>rfl
 |n+1,0,h=>by omega
 |n+1,k+1,h=>by rw[ch,Ax n k af,Ax n (k+1) af]
def Ib:∀n,ch n n=1
 |0=>rfl
 |n+1=>by rw[ch,Ib n,Ax n (n+1) af]
def Md:∀(n k:Nat),(k+1)*ch (n+1) (k+1)=(n+1)*ch n k
 |0,0=>rfl
 |0,k+1=>by rw[Ax 1 (k+1+1) af];rfl
 |n+1,0=>by have:=Md n 0;rw[tl]at this;rw[show ch (n+1+1) (0+1)=ch (n+1) 0+ch (n+1) (0+1)from ae,tl];omega
 |n+1,k+1=>by have h1:=Md n k;have h2:=Md n (k+1);rw[ch,DN,h2];rw[show(k+1+1)*ch (n+1) (k+1)=(k+1)*ch (n+1) (k+1)+ch (n+1) (k+1)by rw[fV,jb],h1];rw[show ch (n+1) (k+1)=ch n k+ch n (k+1)from ae];grind
def dN.akl{p k:Nat}(h:dN p)(h0:0<k)(h1:k<p):p∣ch p k:=by
 obtain⟨n,rfl⟩:∃n,p=n+1:=⟨p-1,by omega⟩;obtain⟨j,rfl⟩:∃j,k=j+1:=⟨k-1,by omega⟩;have h2:n+1∣(j+1)*ch (n+1) (j+1):=⟨ch n j,Md n j⟩;rcases h.dvd_mul h2 with e|e
 ·have:=rE af e;omega
 ·exact e
def pw(A:PS):Nat→PS
 |0=>1
 |n+1=>pw A n*A
def sP(f:Nat→PS):Nat→PS
 |0=>0
 |k+1=>sP f k+f k
def Sf{f g:Nat→PS}:∀{k:Nat},(∀i,i<k→f i=g i)→sP f k=sP g k
 |0,_=>rfl
 |k+1,h=>by rw[sP,sP,Sf (λi hi=>h i af),h k af]
def ZD(f g:Nat→PS):∀k,sP (λi=>f i+g i) k=sP f k+sP g k
 |0=>(PS.add_zero 0).symm
 |k+1=>by simp only[sP,ZD f g k];ac_rfl
def Sg(f:Nat→PS)(A:PS):∀k,sP (λi=>f i*A) k=sP f k*A
 |0=>(PS.zero_mul A).symm
 |k+1=>by simp only[sP,Sg f A k,PS.add_mul]
def Me(f:Nat→PS):∀k,sP f (k+1)=f 0+sP (λi=>f (i+1)) k
 |0=>by simp only[sP];exact PS.add_comm _ _
 |k+1=>by rw[sP,Me f k,sP,PS.add_assoc]
def akm{m:Int}{f:Nat→PS}{k:Nat}(h:∀i,i<k→Cg m (f i) 0):Cg m (sP f k) 0:=by
 induction k with
 |zero=>exact Cg.refl m _
 |succ k ih=>
  have:=(ih (λi hi=>h i af)).add (h k af)
  rwa[PS.add_zero]at this
def ZE(A B:PS):∀n,pw (A+B) n=sP (λk=>PS.K (ch n k)*(pw A k*pw B (n-k))) (n+1)
 |0=>by rw[show sP (λk=>PS.K (ch 0 k)*(pw A k*pw B (0-k))) (0+1)=0+1*(1*1)from ae,PS.zero_add,PS.mul_one,PS.mul_one];rfl
 |n+1=>by
  rw[pw,ZE A B n,PS.mul_add,←Sg,←Sg];rw[Me (λk=>PS.K (ch (n+1) k)*(pw A k*pw B (n+1-k))) (n+1)];have e1:sP (λi=>PS.K (ch (n+1) (i+1))*(pw A (i+1)*pw B (n+1-(i+1)))) (n+1)=sP (λi=>PS.K (ch n i)*(pw A i*pw B (n-i))*A) (n+1)+sP (λi=>PS.K (ch n (i+1))*(pw A (i+1)*pw B (n-i))) (n+1):=by rw[←ZD];refine Sf (λi _=>?_);rw[show n+1-(i+1)=n-i by omega,ch,xV,PS.qQ,PS.add_mul,pw];ac_rfl
  have e2:sP (λi=>PS.K (ch n i)*(pw A i*pw B (n-i))*B) (n+1)=PS.K (ch (n+1) 0)*(pw A 0*pw B (n+1-0))+sP (λi=>PS.K (ch n (i+1))*(pw A (i+1)*pw B (n-i))) (n+1):=by
   rw[Me,show sP (λi=>PS.K (ch n (i+1))*(pw A (i+1)*pw B (n-i))) (n+1)=sP (λi=>PS.K (ch n (i+1))*(pw A (i+1)*pw B (n-i))) n+PS.K (ch n (n+1))*(pw A (n+1)*pw B (n-n))from ae];rw[Ax n (n+1) af,tl,tl,show PS.K ((0:Nat):Int)=0 from PS.mK,PS.zero_mul,PS.add_zero];have e3:sP (λi=>PS.K (ch n (i+1))*(pw A (i+1)*pw B (n-(i+1)))*B) n=sP (λi=>PS.K (ch n (i+1))*(pw A (i+1)*pw B (n-i))) n:=by refine Sf (λi hi=>?_);rw[show n-i=n-(i+1)+1 by omega,pw.eq_2 B];ac_rfl
   rw[e3];have e4:pw B (n+1-0)=pw B (n-0)*B:=rfl;rw[e4];ac_rfl
  rw[e1,e2];ac_rfl
def dN.Ic{p:Nat}(h:dN p)(A B:PS):Cg p (pw (A+B) p) (pw A p+pw B p):=by
 rw[ZE];obtain⟨n,rfl⟩:∃n,p=n+1:=⟨p-1,by have:=h.1;omega⟩;rw[sP,Me];rw[Ib,tl,show n+1-(n+1)=0 by omega,Bt];have e:Cg ((n+1:Nat):Int) (sP (λi=>PS.K (ch (n+1) (i+1))*(pw A (i+1)*pw B (n+1-(i+1)))) n) 0:=by refine akm (λi hi=>?_);have hd:=h.akl (k:=i+1) af af;have:Cg ((n+1:Nat):Int) (PS.K (ch (n+1) (i+1):Nat)) (PS.K 0):=Cg.K (by rw[dk];exact Dx (Dz.2 hd));rw[PS.mK]at this;have h3:=this.qR (pw A (i+1)*pw B (n+1-(i+1)));rwa[PS.zero_mul]at h3
 have e1:PS.K ((1:Nat):Int)*(pw A 0*pw B (n+1))=pw B (n+1):=by rw[show PS.K ((1:Nat):Int)=1 from ae,PS.one_mul,show pw A 0=1 from ae,PS.one_mul]
 have e2:PS.K ((1:Nat):Int)*(pw A (n+1)*pw B 0)=pw A (n+1):=by rw[show PS.K ((1:Nat):Int)=1 from ae,PS.one_mul,show pw B 0=1 from ae,PS.mul_one]
 rw[e1,e2];have:=((Cg.refl ((n+1:Nat):Int) (pw B (n+1))).add e).add (Cg.refl _ (pw A (n+1)));rw[PS.add_zero]at this;rw[PS.add_comm (pw A (n+1))];exact this
def Sh(a:Int):∀n,pw (PS.K a) n=PS.K (a^n)
 |0=>by rw[wJ];rfl
 |n+1=>by rw[pw,Sh a n,←PS.tk,fU]
def ZF:∀n,pw 1 n=1
 |0=>rfl
 |n+1=>by rw[pw,ZF n,PS.mul_one]
def dN.Cn{p:Nat}(h:dN p):∀a:Nat,((a:Int)^p)%(p:Int)=(a:Int)%(p:Int)
 |0=>by obtain⟨n,rfl⟩:∃n,p=n+1:=⟨p-1,by have:=h.1;omega⟩;rw[fU];simp
 |a+1=>by
  have ih:=h.Cn a;have h1:=(h.Ic (PS.K (a:Int)) 1).at 0;rw[show PS.K (a:Int)+1=PS.K ((a+1:Nat):Int)by rw[PS.EV,←PS.qQ];rfl,Sh,ZF,PS.fP,Sh]at h1;have h2:∀c:Int,PS.K c 0=c:=λc=>by simp[PS.K]
  rw[h2,h2,PS.EV,h2,u5,ih,←u5]at h1;exact h1
def dN.ZG{p a:Nat}(h:dN p)(ha:¬p∣a):a^(p-1)%p=1:=by
 have h1:=h.Cn a;obtain⟨n,rfl⟩:∃n,p=n+1:=⟨p-1,by have:=h.1;omega⟩;have h2:((n+1:Nat):Int)∣(a:Int)*((a:Int)^n-1):=by rw[KN,ns,fh,←fU];exact Dy (Bb.1 h1)
 rcases h.Se h2 with e|e
 ·exact absurd (Dz.1 e) ha
 ·have h3:((a:Int)^n)%((n+1:Nat):Int)=1%((n+1:Nat):Int):=Bb.2 (Dx e);have h4:(1:Int)%((n+1:Nat):Int)=1:=iZ ak (by have:=h.1;omega);rw[h4]at h3;simp only[iY];have:((a^n%(n+1):Nat):Int)=1:=xM;omega
def dN.akn{p x:Nat}(h:dN p)(hx:x<p)(h1:x*x%p=1):x=1∨x=p-1:=by
 have h2:=h.1;have DX:x≠0:=by intro e;subst e;simp at h1
 have hd:(p:Int)∣((x:Int)-1)*((x:Int)+1):=by
  have e1:x*x=1+p*(x*x/p):=by have:=Nat.mod_add_div (x*x) p;omega
  have e2:(x:Int)*x=1+(p:Int)*((x*x/p:Nat):Int):=by exact_mod_cast e1
  refine⟨((x*x/p:Nat):Int),?_⟩;rw[x5,px,e2];omega
 rcases h.Se hd with⟨k,e⟩|⟨k,e⟩
 ·left;by_cases hk:k=0
  ·subst hk;omega
  ·exfalso;have:k≥1∨k≤-1:=af;rcases this with hk|hk
   ·have:=jx hk (show(0:Int)≤p by omega);omega
   ·have:=jx hk (show(0:Int)≤p by omega);omega
 ·right;have hk:k=1:=by
   by_cases h0:k≤0
   ·have:=jx h0 (show(0:Int)≤p by omega);omega
   ·by_cases h3:2≤k
    ·have:=jx h3 (show(0:Int)≤p by omega);omega
    ·omega
  subst hk;omega
def dN.inv{p a:Nat}(h:dN p)(ha:¬p∣a):a*(a^(p-2)%p)%p=1:=by rw[GN,Nat.mod_mod,←GN];have:=h.ZG ha;have h2:=h.1;rwa[show p-1=p-2+1 by omega,jl,ix]at this
end Go.El
namespace Go.El
open Go Go.Proofs
def Si:∀(f r a n p:Nat),n<2^f→r<p→xf f r a n p=r*a^n%p
 |0,r,a,n,p,h,hr=>by have:n=0:=cq;subst this;rw[xf,xY,k9,rD hr]
 |f+1,r,a,n,p,h,hr=>by
  rw[xf];split
  ·rename_i h0;subst h0;rw[xY,k9,rD hr]
  ·have hp:0<p:=by omega
   have h2:n/2<2^f:=by rw[jl]at h;omega
   have ea:(a*a%p)^(n/2)%p=a^(2*(n/2))%p:=by rw[←DO,←Nat.pow_two,zH]
   split
   ·rename_i h1;rw[Si f _ _ _ _ h2 (iy _ hp),GN,ea,←GN,Nat.mod_mul_mod];have:a^n=a*a^(2*(n/2)):=by rw[ix,←jl];congr 1;omega
    rw[this,zC]
   ·rename_i h1;rw[Si f _ _ _ _ h2 hr,GN,ea,←GN];have:2*(n/2)=n:=af;rw[this]
def Mf(a n p:Nat)(hn:n<18446744073709551616)(hp:1<p):Aw a n p=a^n%p:=by rw[Aw,Si _ _ _ _ _ hn (iy _ af),rD hp,jb,←DO]
def ako(a p:Nat)(iN:p<18446744073709551616)(hp:1<p):ia a p=a^(p-2)%p:=Mf a (p-2) p af hp
set_option maxHeartbeats 2000000 in
def Mg(p w:Nat)(hp:dN p)(jM:p≤2147483647)(ni:p%2=1)(hw:¬p∣w)(GU:w<18446744073709551616):aG Tryz.prog 122 [cU p,cU w] (cB true):=by
 refine aX Tryz.func122 ae ae ae ae ae ak ?_;have iN:=hp.1;refine rr ae (rr ae ?_);refine Zj (α:=Nat×Nat) (λx=>⟨[(0,cU p),(1,cU w),(5,cU x.1),(6,cI x.2)],[],20,[]⟩) (λx=>x.1*2^x.2=p-1∧x.2<32∧x.1%2=1) ?_ (λje=>aH (bA (α:=Nat×Nat) (λx=>⟨[(0,cU p),(1,cU w),(5,cU x.1),(6,cI x.2)],[],4,[]⟩) (λx=>x.1*2^x.2=p-1∧0<x.1) (λx=>x.1) (p-1,0) ⟨by simp,by show 0<p-1;omega⟩ (wk ⟨sR ae,sR ae,sE ae ?_,sR ae,ah⟩ ah) ?_))
 ·rintro⟨o,t⟩ ⟨h1,h2,h3⟩;simp only at h1 h2 h3;have ht:1≤t:=by
   by_cases e:t=0
   ·subst e;simp at h1;omega
   ·omega
  have ho:o≤p-1:=by rw[←h1];exact Gu _ (nr ak)
  refine rb (rc ae ae (R1 w o p GU af af af) (re ae ?_));rw[Mf w o p af af];have hx:=iy (w^o) (show 0<p by omega);have hf:(w^o%p)^2^t%p=1:=by rw[←DO,←zH,h1];exact hp.ZG hw
  generalize w^o%p=x at hx hf;refine aj (rb (rg 23 ae ae (λh=>?_) (λh=>?_)))
  ·exact re ae (ax ae (λ_=>rr ae (aF (bS (aL ar ae (au.refl _))))) (λh4=>by cases h4))
  have wM:x≠1:=by have h:=kU h;omega
  have e1:IntKind.wrap .u64 ((p:Int)-1)=((p-1:Nat):Int):=by rw[wrap_u64 _ af af];omega
  refine re ae (ax ae (λh4=>?_) (λh4=>aC (ai ?_)))
  ·exact rr ae (aF (bS (aL ar ae (au.refl _))))
  have Eu:x≠p-1:=by have h4:(x:Int)≠IntKind.wrap .u64 ((p:Int)-1):=kU h4;rw[e1]at h4;omega
  refine aj (rr ae (aH (bA (α:=Nat×Nat) (λy=>⟨[(0,cU p),(7,cU y.2),(30,cI ((t:Int)-1)),(31,cI y.1)],[],30,[]⟩) (λy=>y.1≤t-1∧y.2<p∧y.2≠1∧y.2≠p-1∧y.2^2^(t-y.1)%p=1) (λy=>t-1-y.1) (0,x) ⟨bK _,hx,wM,Eu,hf⟩ bY ?_)));rintro⟨i,x⟩ ⟨g1,g2,g3,g4,g5⟩;simp only at g1 g2 g3 g4 g5;have qT:∀j,x^2^(j+1)%p=(x*x%p)^2^j%p:=by intro j;rw[←DO,←Nat.pow_two,←zH];congr 2;rw[jl,ix]
  have n5:=λh=>hp.akn g2 h
  refine rr ae (aj (ax ae (λh5=>?_) (λh5=>?_)))
  ·have h5:i<t-1:=by have h5:(i:Int)<(t:Int)-1:=a9 h5;omega
   have em:(IntKind.wrap .u64 ((x:Int)*(x:Int))).tmod (p:Int)=((x*x%p:Nat):Int):=H8 x x p g2 g2 af;refine aC (ai (aj (aH (rr ae (hp:=aN) (rr ae (ax ae (λh6=>?_) (λh6=>aC (a6 (ai ?_)))))))))
   ·refine rr ae (aF ?_);repeat(first|refine bS ?_|refine fq ?_|refine gU ?_)
    exact aL ar ae (au.refl _)
   ·have h6:(IntKind.wrap .u64 ((x:Int)*(x:Int))).tmod (p:Int)≠IntKind.wrap .u64 ((p:Int)-1):=kU h6;rw[em,e1]at h6;refine rt ae (hp:=aN) (a8 (i+1,x*x%p) ⟨by show i+1≤t-1;omega,iy _ af,λe=>?_,by show x*x%p≠p-1;omega,?_⟩ (by show t-1-(i+1)<t-1-i;omega) (wk ⟨sR ae,sE ae ?_,sR ae,sR ae,ah⟩ ah))
    ·rcases n5 e with e|e
     ·exact g3 e
     ·exact g4 e
    ·show(x*x%p)^2^(t-(i+1))%p=1;rw[←qT,show t-(i+1)+1=t-i by omega];exact g5
    ·exact ay (λz=>AV.c (C.I .u64 z)) em
  ·exfalso;have h5:i=t-1:=by have h5:¬(i:Int)<(t:Int)-1:=bC h5;omega
   rw[h5,show t-(t-1)=0+1 by omega,qT 0]at g5;simp at g5;rcases n5 g5 with e|e
   ·exact g3 e
   ·exact g4 e
 ·refine ay (λz=>AV.c (C.I .u64 z)) ?_;show IntKind.wrap .u64 ((p:Int)-1)=((p-1:Nat):Int);rw[wrap_u64 _ af af];omega
 ·rintro⟨o,t⟩ ⟨h1,h2⟩;simp only at h1 h2;have Sj:t<32:=by
   by_cases e:t<32
   ·exact e
   ·have h5:2^32≤2^t:=jV ak af;have h6:1*2^t≤o*2^t:=eJ _ h2;omega
  have hob:o≤p-1:=by rw[←h1];exact Gu _ (nr ak)
  refine aj (rr ae (hp:=aN) (ax ae (λh=>?_) (λh=>?_)))
  ·have h:(o:Int).tmod 2=0:=eq_of_beq h;have e2:(o:Int).tmod 2=((o%2:Nat):Int):=lC o 2;refine aC (ai (aH (rr ae (hp:=aN) (rt ae (hp:=aN) (a6 (a8 (o/2,t+1) ⟨?_,by show 0<o/2;omega⟩ (by show o/2<o;omega) (wk ⟨sR ae,sR ae,sE ae ?_,sR ae,ah⟩ ah)))))))
   ·show o/2*2^(t+1)=p-1;rw[←h1,jl,ix (2^t) 2,←zC];congr 1;omega
   ·exact ay (λz=>AV.c (C.I .u64 z)) (Cj o af)
  ·have h:(o:Int).tmod 2≠0:=kU h;have e2:(o:Int).tmod 2=((o%2:Nat):Int):=lC o 2;exact bh (bt (bq (bp (nG (je (o,t) ⟨h1,Sj,by show o%2=1;omega⟩) bY))))
set_option maxHeartbeats 2000000 in
def Sk(p:Nat)(hp:dN p)(jM:p≤2147483647):aG Tryz.prog 60 [cU p] (cB true):=by
 refine aX Tryz.func60 ae ae ae ae ae ak ?_;have iN:=hp.1;refine rr ae (aj (rb (rg 7 ae ae (λh3=>?_) (λh3=>?_))))
 ·exfalso;have h3:(p:Int)<2:=a9 h3;omega
 refine re ae (ax ae (λh4=>?_) (λ_=>aC (ai ?_)))
 ·exfalso;have h4:(p:Int)>2147483647:=a9 h4;omega
 refine aj (rb (rx ae ae ah (re ae ?_)));refine aH (bA (α:=Nat) (λi=>⟨[(0,cU p),(11,.a [.I .u64 2,.I .u64 3,.I .u64 5,.I .u64 7]),(12,cI i)],[],8,[]⟩) (λi=>i≤4∧(0<i→p%2=1)) (λi=>4-i) 0 ⟨by decide,λh=>absurd h ak⟩ bY ?_);rintro i ⟨hi,ho⟩;rcases(show i=0∨i=1∨i=2∨i=3∨i=4 by omega)with e|e|e|e|e
 ·subst e;refine rr ae (aj (ax ae (λ_=>aC (ai ?_)) (λh=>by cases h)));refine aj (aH (rb (rx ae ae ?_ (re ae (aj (rr ae (hp:=aN) ?_))))))
  ·exact⟨by show(0:Int)≤_;decide,by show(_:Int)<_;decide⟩
  refine ax ae (λh=>?_) (λh=>aC (ai ?_))
  ·have h:(p:Int).tmod 2=0:=eq_of_beq h;have h2:2∣p:=by have h8:(p:Int).tmod 2=((p%2:Nat):Int):=lC p 2;exact uT af
   have h3:p=2:=by rcases hp.xg h2 with e|e<;>omega
   refine rr ae (aF ?_);repeat(first|refine bS ?_|refine fq ?_|refine gU ?_)
   refine aL ar ae (au.of_eq (ay cB ?_));rw[h3];rfl
  ·have h:(p:Int).tmod 2≠0:=kU h;have h2:¬2∣p:=λhd=>h (by have h8:(p:Int).tmod 2=((p%2:Nat):Int):=lC p 2;have h3:p%2=0:=Bg hd;omega)
   have ni:p%2=1:=by have h9:¬p%2=0:=λe=>h2 (uT e);omega
   have jF:¬p∣2:=λhd=>by
    have h5:p≤2:=rE ak hd;have h6:=hp.1;have h7:2%p=0:=Bg hd;have rY:p%2≠0:=λe=>h2 (uT e)
    rcases(show p=2∨p=3∨p=4∨p=5∨p=6∨p=7 by omega)with e|e|e|e|e|e<;>subst e<;>first|omega| (simp at h7 rY ni)
   refine rb (rc ae ae (Mg p 2 hp jM ni jF ak) (re ae (ax ae (λh=>by cases h) (λ_=>aC (a6 (ai (rt ae (hp:=aN) (a8 1 ⟨by decide,λ_=>ni⟩ ak bY))))))))
 ·subst e;refine rr ae (aj (ax ae (λ_=>aC (ai ?_)) (λh=>by cases h)));refine aj (aH (rb (rx ae ae ?_ (re ae (aj (rr ae (hp:=aN) ?_))))))
  ·exact⟨by show(0:Int)≤_;decide,by show(_:Int)<_;decide⟩
  refine ax ae (λh=>?_) (λh=>aC (ai ?_))
  ·have h:(p:Int).tmod 3=0:=eq_of_beq h;have h2:3∣p:=by have h8:(p:Int).tmod 3=((p%3:Nat):Int):=lC p 3;exact uT af
   have h3:p=3:=by rcases hp.xg h2 with e|e<;>omega
   refine rr ae (aF ?_);repeat(first|refine bS ?_|refine fq ?_|refine gU ?_)
   refine aL ar ae (au.of_eq (ay cB ?_));rw[h3];rfl
  ·have h:(p:Int).tmod 3≠0:=kU h;have h2:¬3∣p:=λhd=>h (by have h8:(p:Int).tmod 3=((p%3:Nat):Int):=lC p 3;have h3:p%3=0:=Bg hd;omega)
   have ni:p%2=1:=ho ak;have jF:¬p∣3:=λhd=>by
    have h5:p≤3:=rE ak hd;have h6:=hp.1;have h7:3%p=0:=Bg hd;have rY:p%3≠0:=λe=>h2 (uT e)
    rcases(show p=2∨p=3∨p=4∨p=5∨p=6∨p=7 by omega)with e|e|e|e|e|e<;>subst e<;>first|omega| (simp at h7 rY ni)
   refine rb (rc ae ae (Mg p 3 hp jM ni jF ak) (re ae (ax ae (λh=>by cases h) (λ_=>aC (a6 (ai (rt ae (hp:=aN) (a8 2 ⟨by decide,λ_=>ni⟩ ak bY))))))))
 ·subst e;refine rr ae (aj (ax ae (λ_=>aC (ai ?_)) (λh=>by cases h)));refine aj (aH (rb (rx ae ae ?_ (re ae (aj (rr ae (hp:=aN) ?_))))))
  ·exact⟨by show(0:Int)≤_;decide,by show(_:Int)<_;decide⟩
  refine ax ae (λh=>?_) (λh=>aC (ai ?_))
  ·have h:(p:Int).tmod 5=0:=eq_of_beq h;have h2:5∣p:=by have h8:(p:Int).tmod 5=((p%5:Nat):Int):=lC p 5;exact uT af
   have h3:p=5:=by rcases hp.xg h2 with e|e<;>omega
   refine rr ae (aF ?_);repeat(first|refine bS ?_|refine fq ?_|refine gU ?_)
   refine aL ar ae (au.of_eq (ay cB ?_));rw[h3];rfl
  ·have h:(p:Int).tmod 5≠0:=kU h;have h2:¬5∣p:=λhd=>h (by have h8:(p:Int).tmod 5=((p%5:Nat):Int):=lC p 5;have h3:p%5=0:=Bg hd;omega)
   have ni:p%2=1:=ho ak;have jF:¬p∣5:=λhd=>by
    have h5:p≤5:=rE ak hd;have h6:=hp.1;have h7:5%p=0:=Bg hd;have rY:p%5≠0:=λe=>h2 (uT e)
    rcases(show p=2∨p=3∨p=4∨p=5∨p=6∨p=7 by omega)with e|e|e|e|e|e<;>subst e<;>first|omega| (simp at h7 rY ni)
   refine rb (rc ae ae (Mg p 5 hp jM ni jF ak) (re ae (ax ae (λh=>by cases h) (λ_=>aC (a6 (ai (rt ae (hp:=aN) (a8 3 ⟨by decide,λ_=>ni⟩ ak bY))))))))
 ·subst e;refine rr ae (aj (ax ae (λ_=>aC (ai ?_)) (λh=>by cases h)));refine aj (aH (rb (rx ae ae ?_ (re ae (aj (rr ae (hp:=aN) ?_))))))
  ·exact⟨by show(0:Int)≤_;decide,by show(_:Int)<_;decide⟩
  refine ax ae (λh=>?_) (λh=>aC (ai ?_))
  ·have h:(p:Int).tmod 7=0:=eq_of_beq h;have h2:7∣p:=by have h8:(p:Int).tmod 7=((p%7:Nat):Int):=lC p 7;exact uT af
   have h3:p=7:=by rcases hp.xg h2 with e|e<;>omega
   refine rr ae (aF ?_);repeat(first|refine bS ?_|refine fq ?_|refine gU ?_)
   refine aL ar ae (au.of_eq (ay cB ?_));rw[h3];rfl
  ·have h:(p:Int).tmod 7≠0:=kU h;have h2:¬7∣p:=λhd=>h (by have h8:(p:Int).tmod 7=((p%7:Nat):Int):=lC p 7;have h3:p%7=0:=Bg hd;omega)
   have ni:p%2=1:=ho ak;have jF:¬p∣7:=λhd=>by
    have h5:p≤7:=rE ak hd;have h6:=hp.1;have h7:7%p=0:=Bg hd;have rY:p%7≠0:=λe=>h2 (uT e)
    rcases(show p=2∨p=3∨p=4∨p=5∨p=6∨p=7 by omega)with e|e|e|e|e|e<;>subst e<;>first|omega| (simp at h7 rY ni)
   refine rb (rc ae ae (Mg p 7 hp jM ni jF ak) (re ae (ax ae (λh=>by cases h) (λ_=>aC (a6 (ai (rt ae (hp:=aN) (a8 4 ⟨by decide,λ_=>ni⟩ ak bY))))))))
 ·subst e;refine rr ae (aj (ax ae (λh=>by cases h) (λ_=>?_)));exact bh (bt (bq (bp (ai (rr ae (aF (aL ar ae (au.refl _))))))))
def akq(a:List Int)(i:Nat):aG Tryz.prog 133 [cS aM a,cI i] (cU (a.getD i 0)):=by
 refine aX Tryz.func133 ae ae ae ae ae ak ?_;refine rr ae (aj (rr ae (ax ae (λh=>?_) (λh=>aC (ai ?_)))))
 ·have h:(i:Int)<(a.length:Int):=a9 h;refine rr ae (hp:=aN) (aF (bS (aL ar ae (au.of_eq (ay (λz=>AV.c (C.I .u64 z)) ?_)))));rw[bu]
 ·have h:¬(i:Int)<(a.length:Int):=bC h;refine rr ae (aF (aL ar ae (au.of_eq (ay (λz=>AV.c (C.I .u64 z)) ?_))));rw[aU,nn af];rfl
def md(p:Int)(a:List Int):List Int:=a.map (·%p)
def yF(p:Int)(a:List Int):(md p a).length=a.length:=dM _
def getD_map{f:Int→Int}(hf:f 0=0)(a:List Int)(i:Nat):(a.map f).getD i 0=f (a.getD i 0):=by
 rw[aU,kc,aU];cases a[i]? with
 |none=>exact hf.symm
 |some x=>rfl
def Ie(p:Int)(a:List Int)(i:Nat):(md p a).getD i 0=a.getD i 0%p:=getD_map (dk p) a i
def Cp{p:Int}(hp:0<p)(a:List Int):rp p (md p a):=λi=>by rw[Ie];exact⟨gZ _ af,iv _ hp⟩
def ZH{p:Int}{a:List Int}(h:rp p a):md p a=a:=by refine nV (yF p a) (λi h1 h2=>?_);have:=h i;rw[aU,cr h2,DG]at this;simp only[md,sH];exact iZ this.1 this.2
def pQ(a:List Int)(i:Nat)(h:i<a.length):a.take (i+1)=a.take i++[a.getD i 0]:=by rw[uV,aU,cr h];rfl
end Go.El
namespace Go.El
def bX(p:Int)(a:List Int):Prop:=rp p a∧can a
def ZI(ws:List Int):∀n i,iM ws n≤i→i<n→ws.getD i 0=0
 |0,i,_,h=>by omega
 |n+1,i,h1,h2=>by
  rw[iM]at h1;split at h1
  ·rename_i h;by_cases e:i=n
   ·rw[e];exact h
   ·exact ZI ws n i h1 af
  ·omega
def EW(a:List Int)(n i:Nat):(a.take n).getD i 0=if i<n then a.getD i 0 else 0:=by
 rw[aU,Pp];split
 ·rw[aU]
 ·rfl
def dH(a:List Int){i:Nat}(h:a.length≤i):a.getD i 0=0:=by rw[aU,nn h];rfl
def Cq(a:List Int):ps (a7 a)=ps a:=PS.ext λi=>by
 rw[dV,dV,a7,EW];split
 ·rfl
 ·rename_i h;by_cases e:i<a.length
  ·exact(ZI a a.length i af e).symm
  ·exact(dH a af).symm
def Sl{p:Int}(hp:0<p){a:List Int}(h:rp p a)(n:Nat):rp p (a.take n):=λi=>by
 rw[EW];split
 ·exact h i
 ·exact⟨jB _,hp⟩
def Mh{p:Int}(hp:0<p){a:List Int}(h:rp p a):rp p (a7 a):=Sl hp h _
def nJ{p:Int}(hp:0<p){a:List Int}(h:rp p a):bX p (a7 a):=⟨Mh hp h,W6 a⟩
def vI{p:Int}(hp:0<p):bX p []:=⟨λi=>by simp;exact hp,.inl ae⟩
def vJ(a:List Int):(a7 a).length≤a.length:=by unfold a7;rw[fI];omega
def ZJ{a:List Int}(h:can a):a7 a=a:=by
 have:iM a a.length=a.length:=by
  cases hl:a.length with
  |zero=>rfl
  |succ n=>
   rw[iM,aq]
   rcases h with h|h
   ·rw[h]at hl;cases hl
   ·rw[hl]at h;exact h
 rw[a7,this,iK]
def bX.top{p:Int}{a:List Int}(h:bX p a){n:Nat}(hn:a.length=n+1):a.getD n 0%p≠0:=by
 rcases h.2 with e|e
 ·rw[e]at hn;cases hn
 ·rw[hn,iY]at e;have:=h.1 n;rw[iZ this.1 this.2];exact e
def bX.len{p:Int}{a:List Int}(h:bX p a){n:Nat}(hd:Dl p n (ps a)):a.length≤n:=by
 by_cases e:a.length≤n
 ·exact e
 ·obtain⟨m,hm⟩:∃m,a.length=m+1:=⟨a.length-1,by omega⟩;exact absurd (hd m af) (h.top hm)
def Sn{p:Int}{a b:List Int}(ha:bX p a)(hb:bX p b)(h:Cg p (ps a) (ps b)):a=b:=by have h1:=ha.len ((kl p b).cg h.symm);have h2:=hb.len ((kl p a).cg h);refine nV af (λi h3 h4=>?_);have h5:=h.at i;have h6:=ha.1 i;have h7:=hb.1 i;rw[dV,dV,iZ h6.1 h6.2,iZ h7.1 h7.2,aU,aU,cr h3,cr h4]at h5;exact h5
def Mi(p:Int)(a:List Int):Cg p (ps (md p a)) (ps a):=Cg.of λi=>by rw[dV,dV,Ie,k8]
def ux:ps []=0:=PS.ext λi=>by rw[dV,PS.lZ];rfl
def akr{p:Int}{a:List Int}(ha:bX p a)(h:Cg p (ps a) 0):a=[]:=by have:=ha.len (n:=0) ((Cl p 0).cg h.symm);exact iu af
def Mj{r:List Int}{k:Nat}(v:Int)(h:k<r.length):ps (r.set k v)=ps r+PS.K (v-r.getD k 0)*PS.X k:=PS.ext λi=>by
 rw[PS.fP,PS.gw,dV,dV,mH _ _ _ _ h];unfold PS.X;split
 ·rename_i e;first
   | (subst e;simp;omega)
   | (rw[e];simp;omega)
 ·rename_i e;rw[aq (λh=>e h.symm)];omega
def EX(a:List Int)(i:Nat):ps (a.take (i+1))=ps (a.take i)+PS.K (a.getD i 0)*PS.X i:=PS.ext λj=>by
 rw[PS.fP,PS.gw,dV,dV,EW,EW];unfold PS.X;by_cases h:j<i
 ·rw[aw h,aw af,aq af];omega
 ·by_cases e:j=i
  ·subst e;rw[aw af,aq af,aw ae];omega
  ·rw[aq af,aq af,aq e];omega
def If(a:List Int):ps (a.take 0)=0:=by rw[PE,ux]
def Cr:ps [1]=1:=PS.ext λi=>by
 cases i with
 |zero=>rfl
 |succ i=>rfl
def So(n:Nat):ps (List.replicate n 0)=0:=PS.ext λi=>by rw[dV,PS.lZ,aU,mU];split<;>rfl
def Cg.Sp{p a b:Int}(h:a%p=b%p)(A:PS):Cg p (PS.K a*A) (PS.K b*A):=(Cg.K h).qR A
def ZK(a b:List Int)(p:Int)(i:Nat)(r:List Int):∀j,i+j≤r.length→Cg p (ps (vF a b p i j r)) (ps r+PS.K (a.getD i 0)*PS.X i*ps (b.take j))
 |0,_=>by rw[vF,If,PS.mul_zero,PS.add_zero];exact Cg.refl _ _
 |j+1,h=>by
  have ih:=ZK a b p i r j af;rw[vF,Mj _ (by rw[L1];omega),EX,PS.mul_add,←PS.add_assoc];refine ih.add ?_;have e:PS.K (a.getD i 0)*PS.X i*(PS.K (b.getD j 0)*PS.X j)=PS.K (a.getD i 0*b.getD j 0)*PS.X (i+j):=by rw[PS.tk,PS.L'];ac_rfl
  rw[e];refine Cg.Sp ?_ _;rw[xZ,k8,←xZ];congr 1;omega
def ZL(a b:List Int)(p:Int):∀i,i≤a.length→Cg p (ps (qO a b p i)) (ps (a.take i)*ps b)
 |0,_=>by rw[qO,So,If,PS.zero_mul];exact Cg.refl _ _
 |i+1,h=>by have ih:=ZL a b p i af;have h2:=ZK a b p i (qO a b p i) b.length (by rw[L2];omega);rw[iK]at h2;rw[qO,EX,PS.add_mul];exact h2.trans (ih.oW _)
def xh(a b:List Int)(p:Int):Cg p (ps (eD a b p)) (ps a*ps b):=by
 unfold eD;split
 ·rename_i h;rcases h with h|h
  ·rw[h,ux,PS.zero_mul];exact Cg.refl _ _
  ·rw[h,ux,PS.mul_zero];exact Cg.refl _ _
 ·rw[Cq];have:=ZL a b p a.length (bD _);rwa[iK]at this
def nK{p:Int}(hp:0<p)(a b:List Int):bX p (eD a b p):=by
 unfold eD;split
 ·exact vI hp
 ·exact nJ hp (R4 a b hp _)
def Ig(a b:List Int)(p:Int):(eD a b p).length≤a.length+b.length-1:=by
 unfold eD;split
 ·exact bK _
 ·have:=vJ (qO a b p a.length);rwa[L2]at this
def Cs{p:Int}{A:PS}:∀{m:Nat},Dl p m A→Cg p A 0∨∃d,d<m∧A d%p≠0∧Dl p (d+1) A
 |0,h=> .inl (aki h)
 |m+1,h=>by
  by_cases e:A m%p=0
  ·rcases Cs (m:=m) (A:=A) (p:=p) (λi hi=>by
    by_cases e2:i=m
    ·rw[e2];exact e
    ·exact h i af)with h1|⟨d,h1,h2,h3⟩
   ·exact .inl h1
   ·exact .inr ⟨d,by omega,h2,h3⟩
  ·exact .inr ⟨m,by omega,e,h⟩
def yG{p:Nat}(hp:dN p){A B:PS}{d e:Nat}(hA:Dl p (d+1) A)(hB:Dl p (e+1) B)(ha:A d%p≠0)(hb:B e%p≠0):(A*B) (d+e)%(p:Int)≠0:=by rw[hA.top hB];exact hp.oX ha hb
def ZM{p:Nat}(hp:dN p){D B:PS}{m n:Nat}(hD:Dl p m D)(hB:Dl p (n+1) B)(hb:B n%p≠0)(h:Dl p n (D*B)):Cg p D 0:=by
 rcases Cs hD with h1|⟨d,h1,h2,h3⟩
 ·exact h1
 ·exact absurd (h (d+n) af) (yG hp h3 hB h2 hb)
def ZN{p:Nat}(hp:dN p){Q R Q' R' B:PS}{m n:Nat}(hB:Dl p (n+1) B)(hb:B n%p≠0)(hQ:Dl p m Q)(hQ':Dl p m Q')(hR:Dl p n R)(hR':Dl p n R')(h:Cg p (Q*B+R) (Q'*B+R')):Cg p Q Q'∧Cg p R R':=by
 have e:Cg p ((Q-Q')*B) (R'-R):=by
  have h1:(Q-Q')*B=(Q*B+R)+ -(Q'*B+R):=by rw[PS.sub_def,PS.add_mul,PS.neg_mul,PS.neg_add];have:Q*B+R+(-(Q'*B)+ -R)=Q*B+ -(Q'*B)+(R+ -R):=kN;rw[this,PS.add_neg,PS.add_zero]
  have h2:R'-R=(Q'*B+R')+ -(Q'*B+R):=by rw[PS.sub_def,PS.neg_add];have:Q'*B+R'+(-(Q'*B)+ -R)=Q'*B+ -(Q'*B)+(R'+ -R):=kN;rw[this,PS.add_neg,PS.zero_add]
  rw[h1,h2];exact h.oW _
 have h0:=ZM hp (hQ.sub hQ') hB hb ((hR'.sub hR).cg e.symm);have hQQ:Cg p Q Q':=by have:=h0.oW Q';have e1:Q-Q'+Q'=Q:=Wn;rwa[e1,PS.zero_add]at this
 refine⟨hQQ,?_⟩;have h3:Cg p (R'-R) 0:=by have:=h0.qR B;rw[PS.zero_mul]at this;exact e.symm.trans this
 have:=h3.oW R;have e1:R'-R+R=R':=Wn;rw[e1,PS.zero_add]at this;exact this.symm
def akv{p:Nat}(hp:dN p){A B:PS}{m n:Nat}(hA:Dl p m A)(hB:Dl p n B)(h:Cg p (A*B) 1):Dl p 1 A:=by
 have rY:¬(1:Int)%(p:Int)=0:=by have:=hp.1;rw[iZ ak af];decide
 have h0:¬Cg p (A*B) 0:=λe=>rY (by have:=(e.symm.trans h).at 0;rw[PS.lZ,dk]at this;exact this.symm)
 rcases Cs hA with h1|⟨d,_,h2,h3⟩
 ·exact absurd (by have:=h1.qR B;rwa[PS.zero_mul]at this) h0
 ·rcases Cs hB with h4|⟨e,_,h5,h6⟩
  ·exact absurd (by have:=h4.vH A;rwa[PS.mul_zero]at this) h0
  ·have h7:=yG hp h3 h6 h2 h5;rw[h.at (d+e)]at h7;by_cases e0:d=0
   ·subst e0;exact h3
   ·exact absurd (Mc (p:Int) (d+e) af) h7
def PS.sub_add_cancel(A B:PS):A-B+B=A:=Wn
def PS.add_sub_cancel(A B:PS):A+B-B=A:=by rw[PS.sub_def,PS.add_assoc,PS.add_neg,PS.add_zero]
def ZO(b:List Int)(p c:Int)(i:Nat)(r:List Int):∀j,i+j≤r.length→Cg p (ps (vG b p c i j r)) (ps r-PS.K c*PS.X i*ps (b.take j))
 |0,_=>by rw[vG,If,PS.mul_zero,PS.sub_def,PS.neg_zero,PS.add_zero];exact Cg.refl _ _
 |j+1,h=>by
  have ih:=ZO b p c i r j af;have e:ps r-PS.K c*PS.X i*ps (b.take (j+1))=(ps r-PS.K c*PS.X i*ps (b.take j))+PS.K (-(c*b.getD j 0))*PS.X (i+j):=by
   rw[EX,PS.mul_add,PS.sub_def,PS.neg_add,PS.sub_def,←PS.add_assoc];congr 1;have e2:PS.K c*PS.X i*(PS.K (b.getD j 0)*PS.X j)=PS.K (c*b.getD j 0)*PS.X (i+j):=by rw[PS.tk,PS.L'];ac_rfl
   rw[e2,PS.neg_eq,←PS.mul_assoc,←PS.tk];congr 2;omega
  rw[vG,Mj _ (by rw[L3];omega),e];refine ih.add (Cg.Sp ?_ _);rw[xZ,k8,←xZ,show∀x:Int,x+(p-c)*b.getD j 0-x= -(c*b.getD j 0)+p*b.getD j 0 by intro x;rw[x5];omega,Kp]
structure DvI(a b:List Int)(p:Int)(m n k:Nat)(x:List Int×List Int):Prop where
 cg:Cg p (ps a) (ps x.1*ps b+ps x.2)
 dl:Dl p (n+(m-k)) (ps x.2)
 z:∀j,j<m-k→x.1.getD j 0=0
def ZP{p:Int}{a b:List Int}{v:Int}{n m:Nat}(hb:b.length=n+1)(ha:a.length=n+m)(hv:b.getD n 0*v%p=1%p):∀k,k≤m→DvI a b p m n k (iT a b p v m n k)
 |0,_=>by
  refine⟨?_,?_,λj hj=>?_⟩
  ·rw[iT,So,PS.zero_mul,PS.zero_add];exact Cg.refl _ _
  ·rw[iT,Bt,←ha];exact kl p a
  ·rw[iT,aU,mU];split<;>rfl
 |k+1,hk=>by
  have ih:=ZP hb ha hv k af;have hl:=L4 a b p v m n k;obtain⟨i,hi⟩:∃i,m=i+(k+1):=⟨m-(k+1),by omega⟩;have ei:m-(k+1)=i:=af;rw[iT,ei];generalize hx:iT a b p v m n k=x at*;generalize hc:x.2.getD (i+n) 0*v%p=c;have hd:=ZO b p c i x.2 b.length af;rw[iK]at hd;have hz:x.1.getD i 0=0:=ih.z i af;have hq:ps (x.1.set i c)=ps x.1+PS.K c*PS.X i:=by rw[Mj c af,hz,DL]
  refine⟨?_,?_,λj hj=>?_⟩
  ·simp only;rw[hq];have h1:ps x.1*ps b+ps x.2=(ps x.1+PS.K c*PS.X i)*ps b+(ps x.2-PS.K c*PS.X i*ps b):=by rw[PS.add_mul,PS.sub_def];have:ps x.1*ps b+PS.K c*PS.X i*ps b+(ps x.2+ -(PS.K c*PS.X i*ps b))=ps x.1*ps b+ps x.2+(PS.K c*PS.X i*ps b+ -(PS.K c*PS.X i*ps b)):=kN;rw[this,PS.add_neg,PS.add_zero]
   exact(ih.cg.trans (Cg.of_eq h1)).trans (hd.symm.Sb _)
  ·simp only;refine Dl.cg (λj hj=>?_) hd.symm;rw[PS.EU,PS.mul_assoc,PS.gw,PS.qP];by_cases e:j=n+i
   ·subst e;rw[aw af,show n+i-i=n by omega,dV,dV,←hc,KH i n];generalize x.2.getD (n+i) 0=y;rw[xZ,mY,k8,←mY,ke,fh v,mY,hv,←mY,ns,KJ,dk]
   ·have h1:=ih.dl j af;have h2:=kl p b (j-i) af;rw[aw af,xZ,h1,mY,h2,et,dk];rfl
  ·simp only;rw[mH _ _ _ _ af];split
   ·omega
   ·exact ih.z j af
def Ay{p:Nat}(hp:dN p)(dp:p≤2147483648){x:Int}(h0:0≤x)(hx:x<p)(hn:x≠0):x*((ia x.toNat ((p:Nat):Int).toNat:Nat):Int)%(p:Int)=1:=by
 obtain⟨y,rfl⟩:=Dw h0;have h2:=hp.1;rw[bu,bu,ako y p af af];have h3:¬p∣y:=λhd=>by have:=rE af hd;omega
 have h4:=hp.inv h3;rw[←gi];omega
def akx{p:Int}{r:List Int}{n:Nat}(h:rp p r)(hd:Dl p n (ps r)):ps (r.take n)=ps r:=PS.ext λi=>by
 rw[dV,dV,EW];split
 ·rfl
 ·have h1:=hd i af;have h2:=h i;rw[dV,iZ h2.1 h2.2]at h1;exact h1.symm
def lD{p:Nat}(hp:dN p)(dp:p≤2147483648){a b:List Int}(ha:rp p a)(hb:bX p b)(eB:b≠[]):
  Cg p (ps a) (ps (bM a b p).1*ps b+ps (bM a b p).2)∧rp p (bM a b p).1∧rp p (bM a b p).2∧(bM a b p).2.length≤b.length-1∧(bX p a→bX p (bM a b p).2)∧(bM a b p).1.length=a.length-(b.length-1):=by
 have h2:=hp.1
 have cL:(0:Int)<(p:Int):=af
 obtain⟨n,hn⟩:∃n,b.length=n+1:=⟨b.length-1,by have:=cZ.2 eB;omega⟩
 rw[bM,hn,iY]
 by_cases h:a.length≤n
 ·rw[aw h];refine⟨?_,(vI cL).1,ha,h,λhc=>hc,?_⟩
  ·rw[ux,PS.zero_mul,PS.zero_add];exact Cg.refl _ _
  ·show 0=_;omega
 ·rw[aq h];obtain⟨m,hm⟩:∃m,a.length=n+m:=⟨a.length-n,by omega⟩;rw[hm,Gv];have tS:=hb.1 n;have Ih:b.getD n 0≠0:=by have:=hb.top hn;exact λe=>this Gr
  have hv:=Ay hp dp tS.1 tS.2 Ih;generalize ((ia (b.getD n 0).toNat ((p:Nat):Int).toNat:Nat):Int)=v at*;have hI:=ZP (p:=p) (v:=v) hn hm (by rw[hv,iZ ak af]) m (bD _);have hl:=L4 a b p v m n m;have hr:=R7 b v m n cL ha m;have hd:=hI.dl;rw[iw,kg]at hd;refine⟨?_,hr.1,Mh cL (Sl cL hr.2 n),?_,λ_=>nJ cL (Sl cL hr.2 n),hl.1⟩
  ·simp only;rw[Cq,akx hr.2 hd];exact hI.cg
  ·simp only;have:=vJ ((iT a b p v m n m).2.take n);rw[fI]at this;omega
def pR(p:Int):Nat→List Int→List Int→List Int
 |0,f,_=>f
 |k+1,f,g=>if g=[]then f else pR p k g (bM f g p).2
def l5(p:Int)(a:List Int):List Int:=if a=[]then[]else eD a [((ia (a.getD (a.length-1) 0).toNat p.toNat:Nat):Int)] p
def gx(p:Int)(f g:List Int):List Int:=l5 p (pR p (g.length+1) f g)
def aY(p:Int)(A:PS):Prop:=∃n,Dl p n A
def aY.add{p:Int}{A B:PS}(h:aY p A)(k:aY p B):aY p (A+B):=by obtain⟨n,h⟩:=h;obtain⟨m,k⟩:=k;exact⟨max n m,(h.le af).add (k.le af)⟩
def aY.neg{p:Int}{A:PS}(h:aY p A):aY p (-A):=by obtain⟨n,h⟩:=h;exact⟨n,h.neg⟩
def aY.sub{p:Int}{A B:PS}(h:aY p A)(k:aY p B):aY p (A-B):=by rw[PS.sub_def];exact h.add k.neg
def aY.mul{p:Int}{A B:PS}(h:aY p A)(k:aY p B):aY p (A*B):=by obtain⟨n,h⟩:=h;obtain⟨m,k⟩:=k;exact⟨n+m,h.mul' k⟩
def aY.ps(p:Int)(a:List Int):aY p (ps a):=⟨_,kl p a⟩
def aY.K(p c:Int):aY p (PS.K c):=⟨_,Sd p c⟩
def aY.zero(p:Int):aY p 0:=⟨0,Cl p 0⟩
def aY.one(p:Int):aY p 1:=⟨1,Mc p⟩
def aY.cg{p:Int}{A B:PS}(h:aY p A)(k:Cg p A B):aY p B:=by obtain⟨n,h⟩:=h;exact⟨n,h.cg k⟩
def gy(p:Int)(A B:PS):Prop:=∃U V,aY p U∧aY p V∧Cg p (U*A+V*B) 1
def gy.symm{p:Int}{A B:PS}(h:gy p A B):gy p B A:=by obtain⟨U,V,h1,h2,h3⟩:=h;exact⟨V,U,h2,h1,by rw[PS.add_comm];exact h3⟩
def gy.cg{p:Int}{A B A' B':PS}(h:gy p A B)(ka:Cg p A A')(kb:Cg p B B'):gy p A' B':=by obtain⟨U,V,h1,h2,h3⟩:=h;exact⟨U,V,h1,h2,((ka.vH U).add (kb.vH V)).symm.trans h3⟩
def gy.step{p:Int}{A B Q R:PS}(h:gy p A B)(hQ:aY p Q)(e:Cg p A (Q*B+R)):gy p B R:=by
 obtain⟨U,V,h1,h2,h3⟩:=h;refine⟨U*Q+V,U,(h1.mul hQ).add h2,h1,?_⟩;have:(U*Q+V)*B+U*R=U*(Q*B+R)+V*B:=by simp only[PS.mul_add,PS.add_mul];ac_rfl
 rw[this];exact((e.symm.vH U).oW _).trans h3
def gy.aky{p:Int}{A B Q R:PS}(h:gy p B R)(hQ:aY p Q)(e:Cg p A (Q*B+R)):gy p A B:=by
 obtain⟨U,V,h1,h2,h3⟩:=h;refine⟨V,U-V*Q,h2,h1.sub (h2.mul hQ),?_⟩;have e1:V*(Q*B+R)+(U-V*Q)*B=U*B+V*R:=by rw[PS.mul_add,PS.sub_def,PS.add_mul,PS.neg_mul];have:V*(Q*B)+V*R+(U*B+ -(V*Q*B))=(U*B+V*R)+(V*Q*B+ -(V*Q*B)):=kN;rw[this,PS.add_neg,PS.add_zero]
 exact((e.vH V).oW _).trans ((Cg.of_eq e1).trans h3)
def Mk{p:Nat}(hp:dN p)(dp:p≤2147483648):∀(k:Nat)(f g:List Int),bX p f→bX p g→g.length<k→bX p (pR p k f g)∧(gy p (ps f) (ps g)↔(pR p k f g).length=1)∧(pR p k f g).length≤max f.length g.length
 |0,_,_,_,_,h=>by omega
 |k+1,f,g,hf,hg,h=>by
  rw[pR];have h2:=hp.1;split
  ·rename_i e;subst e;refine⟨hf,⟨λhc=>?_,λhl=>?_⟩,by omega⟩
   ·obtain⟨U,V,hU,hV,hc⟩:=hc;rw[ux,PS.mul_zero,PS.add_zero,PS.mul_comm]at hc;obtain⟨m,hU⟩:=hU;have h3:=hf.len (akv hp (kl p f) hU hc);by_cases e:f.length=0
    ·exfalso;have:=iu e;subst this;rw[ux,PS.zero_mul]at hc;have:=hc.at 0;rw[PS.lZ,dk]at this;have h4:(1:Int)%(p:Int)=1:=iZ ak af;have h5:(0:Int)=1%(p:Int):=this;omega
    ·omega
   ·have h3:=hf.top (n:=0) af;have h4:=hf.1 0;have h5:f.getD 0 0≠0:=λe=>h3 Gr
    have h6:=Ay hp dp h4.1 h4.2 h5;refine⟨PS.K ((ia (f.getD 0 0).toNat ((p:Nat):Int).toNat:Nat):Int),0,aY.K _ _,aY.zero _,?_⟩;rw[PS.zero_mul,PS.add_zero];have e1:ps f=PS.K (f.getD 0 0):=PS.ext λi=>by
     unfold PS.K;split
     ·rename_i e;subst e;rfl
     ·exact dH f af
    rw[e1,←PS.tk,PS.EV,fh];exact Cg.K (by rw[h6,iZ ak af])
  ·rename_i e;obtain⟨d1,d2,d3,d4,d5,d6⟩:=lD hp dp hf.1 hg e;have hl:=cZ.2 e;obtain⟨i1,i2,i3⟩:=Mk hp dp k g (bM f g p).2 hg (d5 hf) af;refine⟨i1,⟨λhc=>i2.1 (hc.step (aY.ps _ _) d1),λh=>(i2.2 h).aky (aY.ps _ _) d1⟩,by omega⟩
def Sq{p:Nat}(hp:dN p)(dp:p≤2147483648){a:List Int}(ha:bX p a)(h0:a≠[]):bX p (l5 p a)∧(l5 p a).length=a.length∧(l5 p a).getD (a.length-1) 0=1∧Cg p (ps (l5 p a)) (ps a*PS.K ((ia (a.getD (a.length-1) 0).toNat ((p:Nat):Int).toNat:Nat):Int))∧Cg p (ps a) (ps (l5 p a)*PS.K (a.getD (a.length-1) 0)):=by
 have h2:=hp.1;obtain⟨n,hn⟩:∃n,a.length=n+1:=⟨a.length-1,by have:=cZ.2 h0;omega⟩;have hb:=ha.1 n;have Ih:a.getD n 0≠0:=λe=>ha.top hn Gr
 have hv:=Ay hp dp hb.1 hb.2 Ih;rw[l5,aq h0,hn,iY];generalize ((ia (a.getD n 0).toNat ((p:Nat):Int).toNat:Nat):Int)=v at*;have Az:ps [v]=PS.K v:=PS.ext λi=>by
  cases i with
  |zero=>rfl
  |succ i=>rfl
 have h3:=xh a [v] p;rw[Az]at h3;have h4:=nK (show(0:Int)<p by omega) a [v];have yy:(ps (eD a [v] p)) n%(p:Int)=1:=by rw[h3.at n,PS.mul_comm,PS.gw,fh,dV];exact hv
 have Ii:n<(eD a [v] p).length:=by
  by_cases e:n<(eD a [v] p).length
  ·exact e
  ·rw[dV,dH _ af]at yy;simp at yy
 have EY:=Ig a [v] p;have hl:(eD a [v] p).length=n+1:=by simp only[fv,mr]at EY;omega
 refine⟨h4,hl,?_,h3,?_⟩
 ·have h5:=h4.1 n;rw[dV,iZ h5.1 h5.2]at yy;exact yy
 ·refine Cg.symm ((h3.qR _).trans ?_);rw[PS.mul_assoc,←PS.tk,fh v];have:Cg p (ps a*PS.K (a.getD n 0*v)) (ps a*PS.K 1):=(Cg.K (by rw[hv,iZ ak af])).vH _;rw[←PS.EV,PS.mul_one]at this;exact this
def Sr{p:Nat}(hp:dN p)(dp:p≤2147483648){f g:List Int}(hf:bX p f)(hg:bX p g):(gx p f g).length=1↔gy p (ps f) (ps g):=by
 obtain⟨h1,h2,h3⟩:=Mk hp dp (g.length+1) f g hf hg (fT _);rw[h2,gx];by_cases e:pR p (g.length+1) f g=[]
 ·rw[e,l5,aw ae]
 ·rw[(Sq hp dp h1 e).2.1]
end Go.El
namespace Go.El
open Go Go.Proofs
def akz(x:Int):ps [x]=PS.K x:=PS.ext λi=>by
 cases i with
 |zero=>rfl
 |succ i=>rfl
def xi{p x:Int}(h0:0≤x)(h1:x<p):rp p [x]:=λi=>by
 cases i with
 |zero=>exact⟨h0,h1⟩
 |succ i=>exact⟨jB _,by show(0:Int)<p;omega⟩
def ZQ(a b:List Int)(la:a.length≤1000000):aG Tryz.prog 13 [cS aM a,cS aM b] (cB (decide (a=b))):=by
 refine aX Tryz.func13 ae ae ae ae ae ak ?_;refine rr ae (aj (rr ae (ax ae (λh=>?_) (λh=>aC (ai ?_)))))
 ·have h:=oU h;refine rr ae (aF (bS (aL ar ae (au.of_eq (ay cB ?_)))));rw[kC (λe=>h qh)]
 ·have h:=oV h;have hl:a.length=b.length:=af;refine aj (rr ae (aH (bA (α:=Nat) (λi=>⟨[(0,cS aM a),(1,cS aM b),(5,cI i)],[],4,[]⟩) (λi=>i≤a.length∧a.take i=b.take i) (λi=>a.length-i) 0 ⟨bK _,by simp⟩ bY ?_)));rintro i ⟨hi,ht⟩;refine aj (rr ae (ax ae (λh2=>?_) (λh2=>?_)))
  ·have h2:i<a.length:=by have h2:(i:Int)<(a.length:Int):=a9 h2;omega
   refine aC (ai (aj (aH (rr ae (hp:=aN) (ax ae (λh3=>?_) (λh3=>aC (a6 (ai ?_))))))))
   ·have h3:a.getD i 0≠b.getD i 0:=oU h3;refine rr ae (aF ?_);repeat(first|refine bS ?_|refine fq ?_|refine gU ?_)
    refine aL ar ae (au.of_eq (ay cB ?_));rw[kC (λe=>h3 qh)]
   ·have h3:a.getD i 0=b.getD i 0:=oV h3;exact rt ae (a8 (i+1) ⟨h2,by rw[pQ a i h2,pQ b i af,ht,h3]⟩ oF bY)
  ·have h2:i=a.length:=by have h2:¬(i:Int)<(a.length:Int):=bC h2;omega
   subst h2;rw[iK,lI af]at ht;refine bh (bt (bq (bp (ai (rr ae (aF (aL ar ae (au.of_eq (ay cB ?_)))))))));rw[oK ht]
def Ss(a:List Int)(p:Int)(la:a.length≤1000)(cL:0<p)(hp:p<18446744073709551616)(ha:∀i,0≤a.getD i 0):aG Tryz.prog 61 [cS aM a,cU p] (aP (a7 (md p a)) p):=by
 refine aX Tryz.func61 ae ae ae ae ae ak ?_;have vE:p≠0:=af;have H6:=yF p a;refine rr ae (rb (rm aM a.length ae ae ae ae ae ae (lU .u64) ae ?_ ?_ (re ae (aj (rr ae ?_)))))
 ·show _*8≤_;omega
 ·show _*1≤_;omega
 refine aH (bA (α:=Nat) (λi=>⟨[(0,cS aM a),(1,cU p),(4,.c (.P 0 0)),(5,.c (.X 1002000)),(11,cI a.length),(12,cI i)],[(0,.box 101 0 [.V (.slice none 0 0),.I .u64 0]),(1002000,.vec 25 aM ((md p a).take i++List.replicate (a.length-i) 0))],3,[]⟩) (λi=>i≤a.length) (λi=>a.length-i) 0 (bK _) (wk ⟨sR ae,sR ae,sR ae,sR ae,sR ae,sR ae,ah⟩ ⟨bE ae ae,bE ae ?_,ah⟩) ?_)
 ·simp
 intro i hi;have hl:((md p a).take i).length=i:=cT;have tj:((md p a).take i++List.replicate (a.length-i) (0:Int)).length=a.length:=cT;refine rr ae (aj (ax ae (λh=>?_) (λh=>?_)))
 ·have h:i<a.length:=by have h:(i:Int)<(a.length:Int):=a9 h;omega
  refine aC (ai (aj (aH (rr ae (rt ae (hp:=aN) (a6 (ai (rt ae (a8 (i+1) h oF (wk ⟨sR ae,sR ae,sR ae,sR ae,sR ae,sR ae,ah⟩ ⟨bE ae ae,bE ae ?_,ah⟩))))))))));refine ay (aK.vec 25 aM) ?_;have e2:=LW ((md p a).take i) (a.length-(i+1)) (a.getD i 0%p);rw[hl,show a.length-(i+1)+1=a.length-i by omega]at e2;rw[bu,rB (ha i),e2,pQ _ i af,Ie]
 ·have h:i=a.length:=by have h:¬(i:Int)<(a.length:Int):=bC h;omega
  subst h;rw[iw,wD,kB,lI af];exact bh (bt (bq (bp (ai (fY 1002000 ae ae ae (rb (rc ae ae (ER (md p a) p af) (re ae (aF (aL ar ae (au.refl _)))))))))))
def Ij{x:Int}(h:x≠0):a7 [x]=[x]:=ZJ (.inr h)
def AA(f:List Int)(n p:Int)(cL:0<p)(hp:p<18446744073709551616)(hn:0≤n)(Ml:n<p):aG Tryz.prog 125 [aP f p,cU n] (aP (a7 [n]) p):=by refine aX Tryz.func125 ae ae ae ae ae ak ?_;have hr:=Ss [n] p be cL hp (λi=>(xi hn Ml i).1);rw[ZH (xi hn Ml)]at hr;exact rr ae (rb (rl aM [_] ae ae (rc ae ae hr (re ae (aF (aL ar ae (au.refl _)))))))
def ZR{p:Nat}(hp:dN p){a:List Int}(ha:bX p a)(h0:a≠[]):0≤a.getD (a.length-1) 0∧a.getD (a.length-1) 0<p∧a.getD (a.length-1) 0≠0∧(0≤((ia (a.getD (a.length-1) 0).toNat ((p:Nat):Int).toNat:Nat):Int)∧((ia (a.getD (a.length-1) 0).toNat ((p:Nat):Int).toNat:Nat):Int)<p):=by have h2:=hp.1;have hl:=cZ.2 h0;have tS:=ha.1 (a.length-1);refine⟨tS.1,tS.2,λe=>ha.top (n:=a.length-1) af Gr,?_⟩;have:=R0 (a.getD (a.length-1) 0).toNat (p-2) p af;rw[ia,bu];omega
def ZS(p:Nat)(hp:dN p)(dp:p≤2147483648)(a:List Int)(la:a.length≤500)(ha:bX p a):aG Tryz.prog 62 [aP a p] (aP (l5 p a) p):=by
 refine aX Tryz.func62 ae ae ae ae ae ak ?_;have h2:=hp.1;have cL:(0:Int)<(p:Int):=af;refine rr ae (aj (rr ae (ax ae (λh=>?_) (λh=>aC (ai ?_)))))
 ·have h:(a.length:Int)=0:=eq_of_beq h;have h0:a=[]:=iu af;subst h0;exact rr ae (aF (bS (aL ar ae (au.refl _))))
 ·have h:(a.length:Int)≠0:=kU h;have h0:a≠[]:=λe=>h (by rw[e];rfl)
  have hl:=cZ.2 h0;have a2:((a.length:Int)-1).toNat=a.length-1:=af;obtain⟨m1,m2,m3,m4⟩:=ZR hp ha h0;have hinv:=L5 (a.getD (a.length-1) 0) p ⟨m1,m2⟩ m3 af af;have akA:aG Tryz.prog 124 [cU (a.getD ((a.length:Int)-1).toNat 0),cU p] (.t [(false,[.I .u64 (ia (a.getD (a.length-1) 0).toNat ((p:Nat):Int).toNat:Nat)]),(false,[.I .i64 0])]):=by rw[a2];exact hinv
  have hm:=Sq hp dp ha h0;have kD:=Ay hp dp m1 m2 m3;refine rb (rc ae ae (uv a p af) (rc ae ae akA (hp:=aN) (re ae ?_)));have ed:l5 p a=eD a [((ia (a.getD (a.length-1) 0).toNat ((p:Nat):Int).toNat:Nat):Int)] p:=by rw[l5,aq h0]
  generalize ((ia (a.getD (a.length-1) 0).toNat ((p:Nat):Int).toNat:Nat):Int)=v at*;have oS:v≠0:=λe=>by rw[e,et,dk]at kD;cases kD
  have hc:=AA a v p cL af m4.1 m4.2;rw[Ij oS]at hc;have ht:=Ia a [v] p af be cL af ha.1 (xi m4.1 m4.2);rw[←ed]at ht;exact rb (rc ae ae hc (rc ae ae ht (re ae (aF (aL ar ae (au.refl _))))))
def akB{a:List Int}(h:a≠[]):∃x t,a=x::t:=by
 cases a with
 |nil=>exact absurd ae h
 |cons x t=>exact⟨x,t,ae⟩
def yH(p:Nat)(hp:dN p)(dp:p≤2147483648)(a b:List Int)(la:a.length≤1000)(lb:b.length≤1000)(ha:rp p a)(hb:bX p b)(yI:a≠[])(eB:b≠[]):aG Tryz.prog 127 [aP a p,aP b p] (.t [(true,[.S aM (bM a b p).1,.I .u64 p]),(true,[.S aM (bM a b p).2,.I .u64 p])]):=by have h2:=hp.1;obtain⟨x,t,e⟩:=akB yI;have hl:=cZ.2 eB;exact akg x t b p e la lb af af ha hb.1 eB (λe=>hb.top (n:=b.length-1) af Gr)
def Mm(p:Nat)(hp:dN p)(dp:p≤2147483648)(a b:List Int)(la:a.length≤500)(lb:b.length≤500)(ha:bX p a)(hb:bX p b)(yI:a≠[]):aG Tryz.prog 92 [aP a p,aP b p] (aP (gx p a b) p):=by
 refine aX Tryz.func92 ae ae ae ae ae ak ?_;refine rr ae (aj (aH (bA (α:=Nat×List Int×List Int) (λx=>⟨[(2,.c (.P 0 0)),(3,.c (.P 1000 0)),(4,.c (.P 2000 0))],[(0,.box 101 0 [.S aM x.2.1,.I .u64 p]),(1000,.box 101 0 [.S aM x.2.2,.I .u64 p]),(2000,.box 101 0 [.V (.slice none 0 0),.I .u64 0])],1,[]⟩) (λx=>pR p x.1 x.2.1 x.2.2=pR p (b.length+1) a b∧x.2.2.length<x.1∧bX p x.2.1∧bX p x.2.2∧x.2.1.length≤500∧x.2.2.length≤500∧x.2.1≠[]) (λx=>x.2.2.length) (b.length+1,a,b) ⟨ae,fT _,ha,hb,la,lb,yI⟩ (wk ⟨sR ae,sR ae,sR ae,ah⟩ ⟨bE ae ae,bE ae ae,bE ae ae,ah⟩) ?_)));rintro⟨k,f,g⟩ ⟨h1,h2,h3,h4,h5,h6,h7⟩;simp only at h1 h2 h3 h4 h5 h6 h7;cases k with
 |zero=>omega
 |succ k=>
 rw[pR]at h1;refine aj (rr ae (ax ae (λh=>?_) (λh=>?_)))
 ·have h0:g≠[]:=by have h:(g.length:Int)>0:=a9 h;intro e;rw[e]at h;simp at h
  rw[aq h0]at h1;obtain⟨d1,d2,d3,d4,d5,d6⟩:=lD hp dp h3.1 h4 h0;have hl:=cZ.2 h0;exact aC (ai (aH (rb (rc ae ae (yH p hp dp f g af af h3.1 h4 h7 h0) (re ae (rt ae (a6 (a8 (k,g,(bM f g p).2) ⟨h1,by show(bM f g p).2.length<k;omega,h4,d5 h3,h6,by show(bM f g p).2.length≤500;omega,h0⟩ (by show(bM f g p).2.length<g.length;omega) (wk ⟨sR ae,sR ae,sR ae,ah⟩ ⟨bE ae ae,bE ae ae,bE ae ae,ah⟩)))))))))
 ·have h0:g=[]:=by have h:¬(g.length:Int)>0:=bC h;exact iu af
  rw[aw h0]at h1;refine bh (bt (bq (bp (ai (rb (rc ae ae (ZS p hp dp f h5 h3) (re ae (aF (aL ar ae (au.of_eq ?_))))))))));rw[gx,←h1];rfl
def jv(f:List Int)(s:Int)(g:List Int)(p:Int):List Int:=(List.range (max f.length g.length)).map λi=>if i<g.length then(f.getD i 0+s*g.getD i 0)%p else f.getD i 0
def Mn(f:List Int)(s:Int)(g:List Int)(p:Int):(jv f s g p).length=max f.length g.length:=by simp[jv]
def Su(f:List Int)(s:Int)(g:List Int)(p:Int)(i:Nat):(jv f s g p).getD i 0=if i<g.length then(f.getD i 0+s*g.getD i 0)%p else f.getD i 0:=by
 unfold jv;rw[aU,kc];by_cases h:i<max f.length g.length
 ·rw[oI h];rfl
 ·rw[nn cT,aq af,dH f af];rfl
def Ik{p:Int}(hp:0<p){f:List Int}(hf:rp p f)(s:Int)(g:List Int):rp p (jv f s g p):=λi=>by
 rw[Su];split
 ·exact⟨gZ _ af,iv _ hp⟩
 ·exact hf i
def ZT(f:List Int)(s:Int)(g:List Int)(p:Int):Cg p (ps (jv f s g p)) (ps f+PS.K s*ps g):=Cg.of λi=>by
 rw[dV,Su,PS.fP,PS.gw,dV,dV];split
 ·rw[k8]
 ·rename_i h;rw[dH g af,et,nq]
set_option maxHeartbeats 2000000 in
def Sv(f:List Int)(s:Int)(g:List Int)(p:Int)(lf:f.length≤1000)(lg:g.length≤1000)(cL:0<p)(hp:p≤2147483648)(hf:rp p f)(hg:rp p g)(hs:0≤s∧s<p)(aR:f≠[]∨g≠[]):aG Tryz.prog 233 [aP f p,cU s,aP g p] (aP (a7 (jv f s g p)) p):=by
 refine aX Tryz.func233 ae ae ae ae ae ak ?_;have vE:p≠0:=af;generalize hM:max f.length g.length=M;have hM0:0<M:=by
  rcases aR with e|e
  ·have:=cZ.2 e;omega
  ·have:=cZ.2 e;omega
 have hL:=Mn f s g p;have uq:=Su f s g p;have hLr:=Ik cL hf s g;generalize jv f s g p=L at*;refine rr ae (rb (rm aM M ae ae ae ae ae ae (lU .u64) (by rw[aw ae];split<;>omega) ?_ ?_ (re ae ?_)))
 ·show _*8≤_;omega
 ·show _*1≤_;omega
 refine rb (HJ ae ae ae ae ae O5 (λe=>by have:=ay List.length e;rw[jy]at this;simp at this;omega) (re ae ?_));refine aj (rr ae ?_);refine aH (bA (α:=Nat) (λi=>⟨[(1,cU s),(3,.c (.P 0 0)),(5,.c (.P 1000 0)),(6,.c (.P 2000 0)),(7,.c (.X 1007000)),(23,cI g.length),(24,cI i)],[(0,.box 101 0 [.S aM f,.I .u64 p]),(1000,.box 101 0 [.S aM g,.I .u64 p]),(2000,.box 101 0 [.V (.slice none 0 0),.I .u64 0]),(1007000,.vec 25 aM (L.take i++(f++List.replicate (M-f.length) 0).drop i))],5,[]⟩) (λi=>i≤g.length) (λi=>g.length-i) 0 (bK _) (wk ⟨sR ae,sR ae,sR ae,sR ae,sR ae,sR ae,sR ae,ah⟩ ⟨bE ae ae,bE ae ae,bE ae ae,bE ae ?_,ah⟩) ?_)
 ·refine ay (aK.vec 25 aM) ?_;simp
 intro i hi;have hl:(L.take i).length=i:=cT;have hF:∀j,(f++List.replicate (M-f.length) (0:Int)).getD j 0=f.getD j 0:=λj=>by
  rw[aU,List.getElem?_append];split
  ·rw[←aU]
  ·rw[mU,dH f af];split<;>rfl
 have Il:(f++List.replicate (M-f.length) (0:Int)).length=M:=cT;generalize f++List.replicate (M-f.length) (0:Int)=F at*;have tj:(L.take i++F.drop i).length=M:=cT;have lW:(L.take i++F.drop i).getD i 0=f.getD i 0:=by rw[aU,zu af,hl,iw,tM,kg,←aU,hF]
 refine rr ae (aj (ax ae (λh=>?_) (λh=>?_)))
 ·have h:i<g.length:=by have h:(i:Int)<(g.length:Int):=a9 h;omega
  refine aC (ai (aj (aH (rr ae (rt ae (hp:=aN) (a6 (ai (rt ae (a8 (i+1) h (by show g.length-(i+1)<g.length-i;omega) (wk ⟨sR ae,sR ae,sR ae,sR ae,sR ae,sR ae,sR ae,ah⟩ ⟨bE ae ae,bE ae ae,bE ae ae,bE ae ?_,ah⟩))))))))));refine ay (aK.vec 25 aM) ?_;have hx:=Zu (f.getD i 0) s (g.getD i 0) p (hf i) hs (hg i) hp;show(L.take i++F.drop i).set (i:Int).toNat _=_;rw[bu];refine Eq.trans (ay ((L.take i++F.drop i).set i) (show _=L.getD i 0 from ?_)) ?_
  ·show(IntKind.wrap .u64 ((L.take i++F.drop i).getD (i:Int).toNat 0+IntKind.wrap .u64 (s*g.getD (i:Int).toNat 0))).tmod p=_;rw[bu,lW,hx,uq,aw h]
  ·rw[pQ L i af,np];conv=>lhs;rw[qi _ _ af,hl,iw,oH af,DF]
   rfl
 ·have h:i=g.length:=by have h:¬(i:Int)<(g.length:Int):=bC h;omega
  subst h;have e:L.take g.length++F.drop g.length=L:=by
   refine nV (by rw[tj];omega) (λj h1 h2=>?_);have:(L.take g.length++F.drop g.length).getD j 0=L.getD j 0:=by
    rw[aU,List.getElem?_append,hl];split
    ·rename_i hj;rw[Du hj,←aU]
    ·rename_i hj;rw[tM,show g.length+(j-g.length)=j by omega,←aU,hF,uq,aq hj]
   rw[aU,aU,cr h1,cr h2]at this;exact this
  rw[e];exact bh (bt (bq (bp (ai (fY 1007000 ae ae ae (rb (rc ae ae (ER L p af) (re ae (aF (aL ar ae (au.refl _)))))))))))
end Go.El
