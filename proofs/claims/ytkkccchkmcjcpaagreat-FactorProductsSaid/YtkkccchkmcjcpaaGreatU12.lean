/- Contracts: polynomials in one variable over the rationals: division. Own work; no condition. -/
import Derived.RangeFuncOwn
import Derived.RangeFuncLeaves
import Derived.Scope
import Derived.Test.YtkkccchkmcjcpaaGreatU11
import Derived.Test.YtkkccchkmcjcpaaGreatU9
import Derived.Test.YtkkccchkmcjcpaaGreatU3
import Derived.Test.YtkkccchkmcjcpaaGreatU4
import Derived.Test.YtkkccchkmcjcpaaGreatU5
import Derived.Test.YtkkccchkmcjcpaaGreatU8
set_option linter.defProp false
set_option linter.unusedVariables false
set_option linter.unusedSimpArgs false
set_option linter.unnecessarySimpa false
namespace Go.El
open Go Go.Proofs
def gK(inv:Rat)(a b:List Rat)(n m:Nat):Nat→List Rat×List Rat
 |0=>(List.replicate m 0,a)
 |j+1=>((gK inv a b n m j).1.set (m-1-j) ((gK inv a b n m j).2.getD (m-1-j+n) 0*inv),ow (gK inv a b n m j).2 (-((gK inv a b n m j).2.getD (m-1-j+n) 0*inv)) b (m-1-j))
def JA(inv a b n m):∀j,(gK inv a b n m j).1.length=m∧(gK inv a b n m j).2.length=a.length
 |0=>⟨jy,ae⟩
 |j+1=>by obtain⟨h1,h2⟩:=JA inv a b n m j;exact⟨by rw[gK,gO,h1],by rw[gK,ow,pf,h2]⟩
set_option maxRecDepth 100000 in
set_option maxHeartbeats 8000000 in
def adZ{s:Nat}(h1:1≤s)(hs:s≤100000000)(a b:List Rat)(n m:Nat)(hn:b.length=n+1)(hm:a.length=n+m)(ju:0<m)(la:a.length≤1000)(tS:b.getD n 0≠0)(hb:∀i,QS s (b.getD i 0))(hS:∀j,j≤m→∀i,QS s ((gK (b.getD n 0)⁻¹ a b n m j).2.getD i 0)):
  aG Tryz.prog 251 [cS .q a,cS .q b] (.t [(false,[.S .q (eo (gK (b.getD n 0)⁻¹ a b n m m).1)]),(false,[.S .q (eo ((gK (b.getD n 0)⁻¹ a b n m m).2.take n))]),(false,[.I .i64 0])]):=by
 refine aX Tryz.func251 ae ae ae ae ae ak ?_
 refine rr ae (aj (rr ae (ax ae (λh=>?_) (λh=>aC (ai ?_)))))
 ·have h:(b.length:Int)=0:=eq_of_beq h;exact absurd h af
 refine rb (rm ZZ a.length ae ae ae ae ae ae Ly ae ?_ ?_ (re ae ?_))
 ·show a.length*64≤_;omega
 ·show a.length*4≤_;omega
 refine dy (st':=⟨[(0,.c (.S ZZ (a.map qz))),(1,cS .q b),(7,.c (.X 2002000))],[(2002000,.vec 46 ZZ (List.replicate a.length (0,0)))],3,[]⟩) (wk ⟨⟨_,ae,adQ a⟩,sR ae,sR ae,ah⟩ ⟨bR ae,ah⟩) ?_
 refine rb (HJ ae ae ae ae ae (by rw[jy,dM];omega) (λe=>by have:=ay List.length e;rw[jy,mr]at this;omega) (re ae ?_))
 have em:List.map qz a++List.drop (List.map qz a).length (List.replicate a.length ((0,0):Int×Int))=a.map qz:=by rw[dM,WN,iw,wD,kB]
 refine dy (st':=⟨[(0,.c (.S ZZ (a.map qz))),(1,cS .q b),(7,.c (.X 2002000))],[(2002000,.vec 46 .q a)],4,[]⟩) (wk ⟨sR ae,sR ae,sR ae,ah⟩ ⟨⟨_,ae,by rw[em];exact Jw 46 a⟩,ah⟩) ?_
 refine rr ae (aj (rr ae (ax ae (λh=>?_) (λh=>aC (ai ?_)))))
 ·have h:((a.map qz).length:Int)≤(b.length:Int)-1:=a9 h;rw[dM]at h;exact absurd h af
 have e1:((b.length:Int)-1).toNat=n:=af
 have hi:aG Tryz.prog 252 [aQ (b.getD ((b.length:Int)-1).toNat 0)] (.t [(true,av .q (b.getD n 0)⁻¹),(false,[.I .i64 0])]):=by rw[e1];exact TX _ (λe=>tS (C5 e)) ((hb _).n.sm af) ((hb _).d.sm af)
 have C7:QS s (b.getD n 0)⁻¹ :=(hb n).inv tS
 generalize (b.getD n 0)⁻¹ =inv at*
 have ez:((a.map qz).length:Int)-((b.length:Int)-1)=(m:Int):=by rw[dM];omega
 have hz:m9 Tryz.prog 245 [cI (((a.map qz).length:Int)-((b.length:Int)-1))] 46 .q (List.replicate m 0):=by rw[ez];exact N8 m af
 refine rb (rc ae ae hi (re ae (rb (w9 ae ae hz (re ae ?_)))) (hp:=aN))
 refine aj (rr ae ?_)
 rw[jy]
 have hlen:=JA inv a b n m
 have Fk:dG (List.map ZV.sU [ZV.b,ZV.s,ZV.b,ZV.s]) (av .q inv) 0=av .q inv:=rfl
 refine aH (bA (α:=Nat) (λj=>⟨[(1,cS .q b),(7,.c (.X 2002000)),(8,cI n),(9,.c (.P 6008000 0)),(11,.c (.X 7004000)),(12,cI ((m:Int)-1-j))],[(7004000,.vec 46 .q (gK inv a b n m j).1),(6008000,.box 46 0 (av .q inv)),(2002000,.vec 46 .q (gK inv a b n m j).2)],9,[]⟩) (λj=>j≤m) (λj=>m-j) 0 (bK _) (wk ⟨sR ae,sR ae,sE ae ?_,sR ae,sR ae,sE ae ?_,ah⟩ ⟨bR ae,bE ae ae,bR ae,ah⟩) ?_)
 ·exact ay (λz=>AV.c (C.I .i64 z)) (show(b.length:Int)-1=(n:Int)by omega)
 ·exact ay (λz=>AV.c (C.I .i64 z)) (show(m:Int)-1=(m:Int)-1-((0:Nat):Int)by omega)
 intro j hj
 obtain⟨hq,hr⟩:=hlen j
 have Fy:=hS j hj
 have dh:gK inv a b n m (j+1)=((gK inv a b n m j).1.set (m-1-j) ((gK inv a b n m j).2.getD (m-1-j+n) 0*inv),ow (gK inv a b n m j).2 (-((gK inv a b n m j).2.getD (m-1-j+n) 0*inv)) b (m-1-j)):=rfl
 refine aj (rr ae (ax ae (λh2=>?_) (λh2=>?_)))
 ·have h2:j<m:=by have h2:(m:Int)-1-j≥0:=a9 h2;omega
  generalize gK inv a b n m j=S at*;obtain⟨q,r⟩:=S;simp only at hq hr Fy dh;have f1:((m:Int)-1-j).toNat=m-1-j:=af;have f2:((m:Int)-1-j+n).toNat=m-1-j+n:=af;have hmul:=TZ (r.getD ((m:Int)-1-j+n).toNat 0) inv (Fy _) C7 af;have ht:QS (2*s) (r.getD (m-1-j+n) 0*inv):=(Fy _).mul C7;generalize ao2:r.getD (m-1-j+n) 0*inv=t at*;have hmul:aG Tryz.prog 246 [aQ (r.getD ((m:Int)-1-j+n).toNat 0),aQ inv] (aQ t):=by
   have e:r.getD ((m:Int)-1-j+n).toNat 0*inv=t:=by rw[f2];exact ao2
   rwa[e]at hmul
  have UX:(q.set ((m:Int)-1-j).toNat t).getD ((m:Int)-1-j).toNat 0=t:=by rw[Jz _ _ af,aw ae]
  have xA:aG Tryz.prog 77 [aQ ((q.set ((m:Int)-1-j).toNat t).getD ((m:Int)-1-j).toNat 0)] (aQ (-t)):=by rw[UX];exact ab1 t (ht.n.sm af)
  have C6:=UU (s:=2*s) af r (-t) b (m-1-j) af af (λi=>(Fy i).le af) ht.neg (λi=>(hb i).le af);have ao3:nf Tryz.prog 253 [.c (.X 0),aQ (-t),cS .q b,cI ((m:Int)-1-j)] 46 .q r (.t []) (ow r (-t) b (m-1-j)):=by rw[show(m:Int)-1-j=((m-1-j:Nat):Int)by omega];exact C6
  refine aC (ai (aj (aH (rb (rc ae ae hmul (lV (T:= .q) t ae ae ae ae ae ?_ (re ae (cK (rc ae ae xA (n9 2002000 ae ao3 ae ae (re ae (a6 (ai (rt ae (hp:=aN) (a8 (j+1) h2 (by show m-(j+1)<m-j;omega) (wk ⟨sR ae,sR ae,sR ae,sR ae,sR ae,sE ae ?_,ah⟩ ⟨bE ae ?_,bR ae,bE ae ?_,ah⟩)))))) (hp:=?_)))) (hp:=?_)) (hp:=?_)))))))
  ·show((m:Int)-1-j).toNat<q.length;omega
  ·exact ay (λz=>AV.c (C.I .i64 z)) (show(m:Int)-1-j-1=(m:Int)-1-((j+1:Nat):Int)by omega)
  ·rw[dh,f1]
  ·rw[dh]
  ·simp only[Pr.an,Pr.h,num,aA,true_and,and_true];first|done|omega
  ·simp only[Pr.an,Pr.h,num,aA,true_and,and_true];first|done|omega
  ·show 0≤(m:Int)-1-j∧(m:Int)-1-j<(q.length:Int);omega
 ·have h2:j=m:=by have h2:¬(m:Int)-1-j≥0:=bC h2;omega
  subst h2;refine bh (bt (bq (bp (ai (fY 7004000 ae ae ae (fY 2002000 ae ae ae ?_))))));have EK:=Jx (gK inv a b n j j).1 af;have vQ:=Jx (List.take n (gK inv a b n j j).2) zt;exact rb (rc ae ae EK (rc ae ae vQ (re ae (aF (aL ar ae (au.refl _)))) (hp:=aN)))
def UY(T:ET)(y:List (Bool×List C)):au (.t ((false,[.V (.slice none 0 0)])::y)) (.t ((false,[.S T []])::y)):=by
 refine⟨λg v h=>?_,λid h=>?_⟩
 ·obtain⟨vs,e,h⟩:=h;obtain⟨v0,r,rfl,h1,h2⟩:=h;exact⟨_,e,_,_,ae,(au.nil T).1 g v0 h1,h2⟩
 ·simpa[AV.aD,fJ,cD,C.aD]using h
set_option maxRecDepth 100000 in
set_option maxHeartbeats 4000000 in
def ad0(a b:List Rat)(kQ:a.length<b.length)(lb:b.length≤1000):
  aG Tryz.prog 251 [cS .q a,cS .q b] (.t [(false,[.S .q []]),(false,[.S .q a]),(false,[.I .i64 0])]):=by
 refine aX Tryz.func251 ae ae ae ae ae ak ?_
 refine rr ae (aj (rr ae (ax ae (λh=>?_) (λh=>aC (ai ?_)))))
 ·have h:(b.length:Int)=0:=eq_of_beq h;exact absurd h af
 refine rb (rm ZZ a.length ae ae ae ae ae ae Ly ae ?_ ?_ (re ae ?_))
 ·show a.length*64≤_;omega
 ·show a.length*4≤_;omega
 refine dy (st':=⟨[(0,.c (.S ZZ (a.map qz))),(1,cS .q b),(7,.c (.X 2002000))],[(2002000,.vec 46 ZZ (List.replicate a.length (0,0)))],3,[]⟩) (wk ⟨⟨_,ae,adQ a⟩,sR ae,sR ae,ah⟩ ⟨bR ae,ah⟩) ?_
 refine yB ⟨[(0,.c (.S ZZ (a.map qz))),(1,cS .q b),(7,.c (.X 2002000))],[(2002000,.vec 46 .q a)],4,[]⟩ ?_ (λje=>?_)
 ·refine rr ae (aj (rr ae (ax ae (λh=>?_) (λh=>?_))))
  ·exact fY 2002000 ae ae ae (rr ae (aF (bS (aL ar ae (UY _ _)))))
  ·have h:¬((a.map qz).length:Int)≤(b.length:Int)-1:=bC h;rw[dM]at h;exact absurd kQ af
 ·by_cases h0:a=[]
  ·subst h0;exact cK (ao1 ae ae ae ae ae (re ae (nG je (wk ⟨sR ae,sR ae,sR ae,ah⟩ ⟨⟨_,ae,Jw 46 []⟩,ah⟩))))
  ·have hlp:=cZ.2 h0;have em:List.map qz a++List.drop (List.map qz a).length (List.replicate a.length ((0,0):Int×Int))=a.map qz:=by rw[dM,WN,iw,wD,kB]
   refine cK (HJ ae ae ae ae ae (by rw[jy,dM];omega) (λe=>by have:=ay List.length e;rw[jy,mr]at this;omega) (re ae (nG je (wk ⟨sR ae,sR ae,sR ae,ah⟩ ⟨⟨_,ae,by rw[em];exact Jw 46 a⟩,ah⟩))))
def ao4(a b:List Rat)(kQ:a.length<b.length)(lb:b.length≤1000):aG Tryz.prog 198 [cS .q a,cS .q b] (cS .q []):=by refine aX Tryz.func198 ae ae ae ae ae ak ?_;exact rr ae (rb (rc ae ae (ad0 a b kQ lb) (re ae (rr ae (aF (aL ar ae (au.refl _)))))))
def ao5{s:Nat}(h1:1≤s)(hs:s≤100000000)(a b:List Rat)(n m:Nat)(hn:b.length=n+1)(hm:a.length=n+m)(ju:0<m)(la:a.length≤1000)(tS:b.getD n 0≠0)(hb:∀i,QS s (b.getD i 0))(hS:∀j,j≤m→∀i,QS s ((gK (b.getD n 0)⁻¹ a b n m j).2.getD i 0)):
  aG Tryz.prog 198 [cS .q a,cS .q b] (cS .q (eo (gK (b.getD n 0)⁻¹ a b n m m).1)):=by
 refine aX Tryz.func198 ae ae ae ae ae ak ?_
 exact rr ae (rb (rc ae ae (adZ h1 hs a b n m hn hm ju la tS hb hS) (re ae (rr ae (aF (aL ar ae (au.refl _)))))))
def p6(r:List Int)(c:Int)(b:List Int)(k t:Nat):List Int:=(List.range r.length).map λi=>if k≤i∧i<k+t then r.getD i 0-c*b.getD (i-k) 0 else r.getD i 0
def wb(r c b k t):(p6 r c b k t).length=r.length:=by simp[p6]
def C8{r:List Int}{c:Int}{b:List Int}{k t i:Nat}(hi:i<r.length):(p6 r c b k t).getD i 0=if k≤i∧i<k+t then r.getD i 0-c*b.getD (i-k) 0 else r.getD i 0:=by unfold p6;rw[aU,kc,oI hi];rfl
def ao6(r c b k):p6 r c b k 0=r:=xE (wb ..) λi hi=>by rw[wb]at hi;rw[C8 hi,aq af]
def ao7{r:List Int}{c:Int}{b:List Int}{k t:Nat}(h:k+t<r.length):(p6 r c b k t).set (k+t) (r.getD (k+t) 0-c*b.getD t 0)=p6 r c b k (t+1):=xE (by rw[gO,wb,wb]) λi hi=>by
 rw[gO,wb]at hi;rw[mH _ _ _ _ (by rw[wb];exact h),C8 hi,C8 hi];by_cases e:k+t=i
 ·subst e;rw[aw be,aw af,Gv]
 ·by_cases e2:k≤i∧i<k+t
  ·rw[aq af,aw e2,aw af]
  ·rw[aq af,aq e2,aq af]
def ao8{r:List Int}{c:Int}{b:List Int}{x v:Nat}(hr:∀i,aW x (r.getD i 0))(hc:aW x c)(hb:∀i,aW v (b.getD i 0))(k t i:Nat):aW (x+v+1) ((p6 r c b k t).getD i 0):=by
 by_cases hi:i<r.length
 ·rw[C8 hi];split
  ·exact(((hr i).le af).sub (hc.mul (hb _))).le af
  ·exact(hr i).le af
 ·rw[dH _ (by rw[wb];omega)];exact aW.zero _
def gL(a b:List Int)(n m:Nat):Nat→List Int×List Int
 |0=>(List.replicate m 0,a)
 |k+1=>((gL a b n m k).1.set (m-1-k) ((gL a b n m k).2.getD (m-1-k+n) 0),p6 (gL a b n m k).2 ((gL a b n m k).2.getD (m-1-k+n) 0) b (m-1-k) b.length)
def Ob(a b n m):∀k,(gL a b n m k).1.length=m∧(gL a b n m k).2.length=a.length
 |0=>⟨jy,ae⟩
 |k+1=>by obtain⟨h1,h2⟩:=Ob a b n m k;exact⟨by rw[gL,gO,h1],by rw[gL,wb,h2]⟩
def UZ{a b:List Int}{u v:Nat}(ha:∀i,aW u (a.getD i 0))(hb:∀i,aW v (b.getD i 0))(n m:Nat):∀k i,aW (u+k*(v+1)) ((gL a b n m k).2.getD i 0)
 |0,i=>(ha i).le af
 |k+1,i=>by rw[gL];exact(ao8 (UZ ha hb n m k) (UZ ha hb n m k _) hb _ _ i).le (by rw[fV,jb];omega)
set_option maxRecDepth 100000 in
set_option maxHeartbeats 8000000 in
def ad1(a b:List Int)(n m u v:Nat)(hn:b.length=n+1)(hm:a.length=n+m)(ju:0<m)(la:a.length≤100)(hu:u≤100000)(hv:v≤100000)(ha:∀i,aW u (a.getD i 0))(hb:∀i,aW v (b.getD i 0))(q:List Int)(d:Bool)(hq:d=true→q=(gL a b n m m).1∧∀i,i<n→(gL a b n m m).2.getD i 0=0)(hd:d=false→q=[]∧∃i,i<n∧(gL a b n m m).2.getD i 0≠0):
  aG Tryz.prog 282 [cS .z a,cS .z b] (.t [(false,[.S .z q]),(false,[.B d])]):=by
 refine aX Tryz.func282 ae ae ae ae ae ak ?_
 refine rr ae (rr ae (aj (rr ae (ax ae (λh=>?_) (λh=>aC (ai ?_))))))
 ·have h:(a.length:Int)≤(b.length:Int)-1:=a9 h;exact absurd h af
 refine rb (Q6 ae ae ae ae ae ae ae ae ?_ ?_ (re ae ?_))
 ·show(a.length+a.length/4+192)*32≤_;omega
 ·show a.length*2≤_;omega
 have ez:(a.length:Int)-((b.length:Int)-1)=(m:Int):=af
 refine rb (rm .z m ae ae ae ae ae ae (λg=>B0 g) ez ?_ ?_ (re ae ?_))
 ·show m*32≤_;omega
 ·show m*2≤_;omega
 refine aj (rr ae ?_)
 rw[jy]
 refine aH (bA (α:=Nat) (λk=>⟨[(1,cS .z b),(6,cI n),(7,.c (.X 3001000)),(8,.c (.X 4004000)),(9,cI ((m:Int)-1-k))],[(4004000,.vec 44 .z (gL a b n m k).1),(3001000,.vec 44 .z (gL a b n m k).2)],6,[]⟩) (λk=>k≤m) (λk=>m-k) 0 (bK _) (wk ⟨sR ae,sE ae ?_,sR ae,sR ae,sE ae ?_,ah⟩ ⟨bR ae,bR ae,ah⟩) ?_)
 ·exact ay (λz=>AV.c (C.I .i64 z)) (show(b.length:Int)-1=(n:Int)by omega)
 ·exact ay (λz=>AV.c (C.I .i64 z)) (show(m:Int)-1=(m:Int)-1-((0:Nat):Int)by omega)
 intro k hk
 obtain⟨lq,lr⟩:=Ob a b n m k
 refine aj (rr ae (ax ae (λh2=>?_) (λh2=>?_)))
 ·have h2:k<m:=by have h2:(m:Int)-1-k≥0:=a9 h2;omega
  have hB:=UZ ha hb n m k;have dh:gL a b n m (k+1)=((gL a b n m k).1.set (m-1-k) ((gL a b n m k).2.getD (m-1-k+n) 0),p6 (gL a b n m k).2 ((gL a b n m k).2.getD (m-1-k+n) 0) b (m-1-k) b.length):=rfl;have hkv:k*(v+1)≤100*(v+1):=eJ _ af;generalize gL a b n m k=S at*;obtain⟨q0,r⟩:=S;simp only at lq lr hB dh;have f1:((m:Int)-1-k).toNat=m-1-k:=af;have f2:((m:Int)-1-k+n).toNat=m-1-k+n:=af;generalize hc:r.getD (m-1-k+n) 0=c at*;have Au:aW (u+k*(v+1)) c:=by rw[←hc];exact hB _
  refine aC (ai (aj (aH (rb (lV (T:= .z) c ae ae ae ae ?_ ?_ (re ae (rr ae ?_)) (hp:=?_))))))
  ·show some (av .z (r.getD ((m:Int)-1-k+n).toNat 0))=_;rw[f2,hc]
  ·show((m:Int)-1-k).toNat<q0.length;omega
  ·refine aH (bA (α:=Nat) (λt=>⟨[(1,cS .z b),(6,cI n),(7,.c (.X 3001000)),(8,.c (.X 4004000)),(9,cI ((m:Int)-1-k)),(44,cI b.length),(45,cI t)],[(4004000,.vec 44 .z (q0.set (m-1-k) c)),(3001000,.vec 44 .z (p6 r c b (m-1-k) t))],9,[]⟩) (λt=>t≤b.length) (λt=>b.length-t) 0 (bK _) (wk ⟨sR ae,sR ae,sR ae,sR ae,sR ae,sR ae,sR ae,ah⟩ ⟨bE ae ?_,bE ae ?_,ah⟩) ?_)
   ·rw[f1]
   ·rw[ao6]
   intro t ht;refine rr ae (aj (ax ae (λh3=>?_) (λh3=>?_)))
   ·have h3:t<b.length:=by have h3:(t:Int)<(b.length:Int):=a9 h3;omega
    have f3:((m:Int)-1-k+t).toNat=m-1-k+t:=af;have xx:=wb r c b (m-1-k) t;have hg:(p6 r c b (m-1-k) t).getD ((m:Int)-1-k+t).toNat 0=r.getD (m-1-k+t) 0:=by rw[f3,C8 af,aq af]
    have UX:(q0.set (m-1-k) c).getD ((m:Int)-1-k).toNat 0=c:=by rw[f1,mH _ _ _ _ af,aw ae]
    have hmul:aG Tryz.prog 105 [aZ ((q0.set (m-1-k) c).getD ((m:Int)-1-k).toNat 0),aZ (b.getD (t:Int).toNat 0)] (aZ (c*b.getD t 0)):=by rw[UX,bu];exact uu _ _ (Au.sm af) ((hb t).sm af)
    have eL:aG Tryz.prog 163 [aZ ((p6 r c b (m-1-k) t).getD ((m:Int)-1-k+t).toNat 0),aZ (c*b.getD t 0)] (aZ (r.getD (m-1-k+t) 0-c*b.getD t 0)):=by rw[hg];exact RV _ _ ((hB _).sm af) ((Au.mul (hb t)).sm af)
    refine aC (ai (aj (aH (rr ae (cK (rc ae ae hmul (rc ae ae eL (lV (T:= .z) (r.getD (m-1-k+t) 0-c*b.getD t 0) ae ae ae ae ae ?_ (re ae ?_))) (hp:=?_)))))))
    ·show((m:Int)-1-k+t).toNat<(p6 r c b (m-1-k) t).length;omega
    ·refine a6 (ai (rt ae (a8 (t+1) h3 (by show b.length-(t+1)<b.length-t;omega) (wk ⟨sR ae,sR ae,sR ae,sR ae,sR ae,sR ae,sR ae,ah⟩ ⟨bR ae,bE ae ?_,ah⟩))));refine ay (aK.vec 44 .z) ?_;rw[f3,ao7 af]
    ·simp only[Pr.an,Pr.h,num,aA,true_and,and_true];have e1:(q0.set (m-1-k) c).length=m:=by rw[gO];exact lq
     omega
   ·have h3:t=b.length:=by have h3:¬(t:Int)<(b.length:Int):=bC h3;omega
    subst h3;refine bh (bt (bq (bp (a6 (ai (rt ae (a8 (k+1) h2 (by show m-(k+1)<m-k;omega) (wk ⟨sR ae,sR ae,sR ae,sR ae,sE ae ?_,ah⟩ ⟨bE ae ?_,bE ae ?_,ah⟩))))))))
    ·exact ay (λz=>AV.c (C.I .i64 z)) (show(m:Int)-1-k-1=(m:Int)-1-((k+1:Nat):Int)by omega)
    ·rw[dh]
    ·rw[dh]
  ·simp only[Pr.an,Pr.h,num,aA,true_and,and_true];omega
 ·have h2:k=m:=by have h2:¬(m:Int)-1-k≥0:=bC h2;omega
  subst h2;generalize gL a b n k k=S at*;obtain⟨q0,r⟩:=S;simp only at lq lr hq hd;refine bh (bt (bq (bp (ai (fY 4004000 ae ae ae (fY 3001000 ae ae ae ?_))))));have e1:((n:Int)).toNat=n:=bu n;refine aj (rr ae ?_);refine aH (bA (α:=Nat) (λj=>⟨[(8,cS .z q0),(72,cS .z (r.take n)),(73,cI n),(74,cI j)],[],7,[]⟩) (λj=>j≤n∧∀i,i<j→r.getD i 0=0) (λj=>n-j) 0 ⟨bK _,λi h=>absurd h af⟩ (wk ⟨sR ae,sE ae ?_,sE ae ?_,sR ae,ah⟩ ah) ?_)
  ·show AV.c (.S .z (List.take _ r))=_;rw[e1]
  ·exact ay (λz=>AV.c (C.I .i64 z)) (show((r.take (n:Int).toNat).length:Int)=(n:Int)by rw[e1,fI];omega)
  rintro j ⟨hj,hz⟩;refine rr ae (aj (ax ae (λh3=>?_) (λh3=>?_)))
  ·have h3:j<n:=by have h3:(j:Int)<(n:Int):=a9 h3;omega
   have eg:(r.take n).getD ((j:Int)).toNat 0=r.getD j 0:=by rw[bu,EW,aw h3]
   refine aC (ai (aj (aH (rr ae (rb (rc ae ae (Aq ((r.take n).getD ((j:Int)).toNat 0)) (re ae ?_)))))));rw[eg];refine ax ae (λh4=>?_) (λh4=>aC ?_)
   ·have h4:r.getD j 0≠0:=λe=>by rw[e]at h4;cases h4
    have KT:d=false:=by
     cases d with
     |true=>exact absurd ((hq ae).2 j h3) h4
     |false=>rfl
    obtain⟨nF,_⟩:=hd KT;subst nF KT;exact rr ae (aF (fq (bS (gU (fq (bS (aL ar ae (UY .z _))))))))
   ·have h4:r.getD j 0=0:=uD.1 (oV h4);refine a6 (ai (rt ae (a8 (j+1) ⟨h3,λi hi=>?_⟩ (by show n-(j+1)<n-j;omega) bY)));by_cases e:i=j
    ·rw[e];exact h4
    ·exact hz i af
  ·have h3:j=n:=by have h3:¬(j:Int)<(n:Int):=bC h3;omega
   subst h3;have hdt:d=true:=by
    cases d with
    |true=>rfl
    |false=>
     obtain⟨_,i,i1,i2⟩:=hd ae
     exact absurd (hz i i1) i2
   obtain⟨nF,_⟩:=hq hdt;subst hdt nF;exact bh (bt (bq (bp (ai (rr ae (aF (aL ar ae (au.refl _))))))))
def ao9{r b:List Int}(c:Int){k:Nat}(h:k+b.length≤r.length):Rx.zx (p6 r c b k b.length)=Rx.zx r-Rx.K (c:Rat)*(Rx.X k*Rx.zx b):=Rx.ext λi=>by
 rw[Rx.EU,Rx.iE,Rx.qP,Rx.mj,Rx.mj];by_cases hi:i<r.length
 ·rw[C8 hi];by_cases e:k≤i∧i<k+b.length
  ·rw[aw e,aw e.1,Rx.mj,PA,jz]
  ·rw[aq e];split
   ·rw[Rx.mj,dH b af,KD];grind
   ·grind
 ·rw[dH _ (show(p6 r c b k b.length).length≤i by rw[wb];omega),dH r af];split
  ·rw[Rx.mj,dH b af,KD];grind
  ·grind
def ao'{l:List Int}{k:Nat}(t:Int)(h:k<l.length)(h0:l.getD k 0=0):Rx.zx (l.set k t)=Rx.zx l+Rx.K (t:Rat)*Rx.X k:=Rx.ext λi=>by
 rw[Rx.fP,Rx.iE,Rx.I9,Rx.mj,Rx.mj,mH _ _ _ _ h];by_cases e:k=i
 ·subst e;rw[aw ae,aw ae,h0,KD];grind
 ·rw[aq e,aq (λh=>e h.symm)];grind
def ad3{a b:List Int}{n m:Nat}(hn:b.length=n+1)(hm:a.length=n+m)(hb:b.getD n 0=1):∀j,j≤m→
  Rx.zx a=Rx.zx (gL a b n m j).1*Rx.zx b+Rx.zx (gL a b n m j).2∧(∀i,i<m-j→(gL a b n m j).1.getD i 0=0)∧(∀i,n+(m-j)≤i→(gL a b n m j).2.getD i 0=0)∧(1≤j→(gL a b n m j).1.getD (m-1) 0=a.getD (m-1+n) 0)
 |0,_=>by
  have hz:∀i,(List.replicate m (0:Int)).getD i 0=0:=λi=>by rw[aU,mU];split<;>rfl
  refine⟨?_,λi _=>hz i,λi hi=>dH a af,λh=>absurd h af⟩;show Rx.zx a=Rx.zx (List.replicate m 0)*Rx.zx b+Rx.zx a;rw[show Rx.zx (List.replicate m (0:Int))=0 from Rx.ext λi=>by rw[Rx.mj,hz];rfl,Rx.zero_mul,Rx.zero_add]
 |j+1,hj=>by
  obtain⟨h1,h2,h3,h4⟩:=ad3 hn hm hb j af;obtain⟨l1,l2⟩:=Ob a b n m j;have h0:j=0→(gL a b n m j).2=a:=λe=>by subst e;rfl
  rw[gL];generalize gL a b n m j=x at*;obtain⟨q,r⟩:=x;simp only at h1 h2 h3 h4 l1 l2 h0⊢;refine⟨?_,λi hi=>?_,λi hi=>?_,λ_=>?_⟩
  ·rw[ao' _ af (h2 _ af),ao9 _ af,h1,Rx.add_mul,Rx.mul_assoc (Rx.K _) (Rx.X _)];generalize Rx.K ((r.getD (m-1-j+n) 0:Int):Rat)*(Rx.X (m-1-j)*Rx.zx b)=u;rw[Rx.add_assoc,Rx.add_comm u,Rx.l6]
  ·rw[mH _ _ _ _ af,aq af,h2 i af]
  ·by_cases vp:i<r.length
   ·rw[C8 vp];by_cases e:i=m-1-j+n
    ·rw[aw af,e,show m-1-j+n-(m-1-j)=n by omega,hb,ns,KJ]
    ·split
     ·rw[h3 i af,dH b (i:=i-(m-1-j)) af,et];rfl
     ·exact h3 i af
   ·exact dH _ (by rw[wb];omega)
  ·rw[mH _ _ _ _ af];by_cases e:j=0
   ·subst e;rw[aw af,h0 ae,Bt]
   ·rw[aq af,h4 af]
def apa(a b:List Int)(kQ:a.length<b.length)(lb:b.length≤1000):aG Tryz.prog 282 [cS .z a,cS .z b] (.t [(false,[.S .z []]),(false,[.B false])]):=by
 refine aX Tryz.func282 ae ae ae ae ae ak ?_;refine rr ae (rr ae (aj (rr ae (ax ae (λh=>?_) (λh=>?_)))))
 ·exact rr ae (aF (bS (aL ar ae (UY .z _))))
 ·have h:¬(a.length:Int)≤(b.length:Int)-1:=bC h;exact absurd kQ af
open Classical in
noncomputable def JB(a b:List Int):AV:=if Rx.zx b∣Rx.zx a then .t [(false,[.S .z (rj a b)]),(false,[.B true])]else .t [(false,[.S .z []]),(false,[.B false])]
def ad4{a b:List Int}(h:Rx.zx b∣Rx.zx a):JB a b= .t [(false,[.S .z (rj a b)]),(false,[.B true])]:=by unfold JB;rw[aw h]
def U2{a b:List Int}(h:¬Rx.zx b∣Rx.zx a):JB a b= .t [(false,[.S .z []]),(false,[.B false])]:=by unfold JB;rw[aq h]
def apb{a b:List Int}{u v:Nat}(ha:bT a)(hb:bT b)(la:a.length≤100)(lb:b.length≤1000)(hu:u≤100000)(hv:v≤100000)(hA:∀i,aW u (a.getD i 0))(hB:∀i,aW v (b.getD i 0)):aG Tryz.prog 282 [cS .z a,cS .z b] (JB a b):=by
 have pb:=cZ.2 hb.1;have N5:Rx.zx a≠0:=(Rx.ou ha).ne;by_cases kQ:a.length<b.length
 ·rw[U2 λhd=>?_]
  ·exact apa a b kQ lb
  ·have:=Rx.j3 hd N5;rw[Rx.mT ha.can,Rx.mT hb.can]at this;omega
 ·obtain⟨n,hn⟩:∃n,b.length=n+1:=⟨b.length-1,by omega⟩;obtain⟨m,hm⟩:∃m,a.length=n+m:=⟨a.length-n,by omega⟩;have jq:b.getD n 0=1:=by have:=hb.2;rwa[hn,iY]at this
  have wV:a.getD (m-1+n) 0=1:=by have:=ha.2;rwa[hm,show n+m-1=m-1+n by omega]at this
  obtain⟨h1,_,h3,h4⟩:=ad3 hn hm jq m (bD _);obtain⟨l1,l2⟩:=Ob a b n m m;have qm:bT (gL a b n m m).1:=⟨λe=>by rw[e]at l1;simp at l1;omega,by rw[l1,h4 af,wV]⟩;by_cases hz:∀i,i<n→(gL a b n m m).2.getD i 0=0
  ·have r0:Rx.zx (gL a b n m m).2=0:=Rx.ext λi=>by
    rw[Rx.mj];by_cases hi:i<n
    ·rw[hz i hi];rfl
    ·rw[h3 i af];rfl
   rw[r0,Rx.add_zero]at h1;have hd:Rx.zx b∣Rx.zx a:=⟨_,h1⟩;have hex:∃q,bT q∧Rx.zx a=Rx.zx b*Rx.zx q:=⟨_,qm,by rw[Rx.mul_comm];exact h1⟩;have e0:rj a b=Classical.choose hex:=by unfold rj;rw[dif_pos hex]
   obtain⟨c1,c2⟩:=xQ hex;rw[←e0]at c1 c2;have eq:rj a b=(gL a b n m m).1:=Rx.aoh c1.can qm.can (Rx.yO (Rx.ou hb).ne (by rw[←h1,c2,Rx.mul_comm]));rw[ad4 hd];exact ad1 a b n m u v hn hm af la hu hv hA hB _ true (λ_=>⟨eq,hz⟩) (λh=>by cases h)
  ·have hex:∃i,i<n∧(gL a b n m m).2.getD i 0≠0:=gE λJC=>hz λi hi=>gE λh=>JC ⟨i,hi,h⟩
   rw[U2 λhd=>?_]
   ·exact ad1 a b n m u v hn hm af la hu hv hA hB _ false (λh=>by cases h) (λ_=>⟨ae,hex⟩)
   ·rw[h1]at hd;have h5:=Rx.xk hd (Rx.dvd_mul_left _ _);have h6:=Rx.vK h5 (by
     rw[Rx.mT hb.can];have:=Rx.vT (A:=Rx.zx (gL a b n m m).2) (n:=n) λi hi=>by rw[Rx.mj,h3 i af];rfl
     omega)
    obtain⟨i,_,i2⟩:=hex;have h7:Rx.zx (gL a b n m m).2 i=(0:Rx) i:=by rw[h6]
    rw[Rx.mj]at h7;exact i2 (WC.1 h7)
end Go.El
namespace Go.El
open Go Go.RowKit
section
variable{P:Program}
def apc{g:Gh}:∀(vs:List AV)(us:List Value)(i:Nat)(all:List Value),us.length=vs.length→(∀j,j<us.length→all[i+j]? =us[j]?)→(∀t v,ao t (ls i vs)=some v→bP g v (all.toArray.getD t undef))→jt g vs us:=by
 intro vs;induction vs with
 |nil=>intro us i all hl _ _;exact iu Gl
 |cons x vs ih=>
  intro us i all hl nz hr
  cases us with
  |nil=>simp at hl
  |cons u us=>
   refine⟨u,us,ae,?_,ih us (i+1) all Gl ?_ ?_⟩
   ·have h1:=hr i x (by simp[ls,ao]);have h2:=nz 0 be;simp only[kg,Bf]at h2;simpa[h2]using h1
   ·intro j hj;have:=nz (j+1) zo;rw[show i+1+j=i+(j+1)by omega];simpa using this
   ·intro t v ht;refine hr t v ?_;have aR:∀(l:List AV)(i':Nat),i<i'→∀v,ao i (ls i' l)=some v→False:=by
     intro l;induction l with
     |nil=>intro i' _ v h;simp[ls,ao]at h
     |cons y l ihl=>
      intro i' br v h
      simp only[ls,ao]at h
      split at h
      ·omega
      ·exact ihl (i'+1) af v h
    simp only[ls,ao];split
    ·rename_i e;subst e;exact(aR vs (i+1) af v ht).elim
    ·exact ht
open Classical in
end
section
variable{P:Program}{tt:TT}
def ape{Fe:Fence}{n:Nat}{c:Code}{α:Type}(I:α→Act→World→Prop)(μ:α→Nat){Q:Exit→Act→World→Prop}(x:α){a:Act}{w:World}(h₀:I x a w)
  (round:∀x a w,I x a w→c.wpIn Fe n P (Exit.then (λa' w'=>∃x',I x' a' w'∧μ x'<μ x) Q) a w):(Code.loop c).wpIn Fe n P Q a w:=by
 intro b k cs U3 hb hr
 have key:∀j x a w,μ x=j→I x a w→
   ∃e a' w',Q e a' w'∧ArrivesIn (Machine.fenced P Fe) P (lone (b.atR a (.code c:: .inLoop c::k)) cs w) b k cs e a' w':=by
  intro j
  induction j using Nat.strongRecOn with
  |_ j ih=>
   intro x a w hn hI
   obtain⟨e,a₁,w₁,hq,iP⟩:=round x a w hI b (.inLoop c::k) cs U3 hb hr
   cases e with
   |normal=>
    obtain⟨x',Qu,br⟩:=hq
    obtain⟨e₂,a₂,w₂,Qv,Qw⟩:=ih (μ x') (hn▸br) x' a₁ w₁ ae Qu
    exact⟨e₂,a₂,w₂,Qv,.of_steps (StepsIn.trans iP (.one (fenced_calm hb hr ae) stepR_inLoop)) Qw⟩
   |exit id=>exact⟨_,a₁,w₁,hq,.pass (x:= .inLoop c) ae (λ_ _=> .inl be) iP⟩
   |goto l=>exact⟨_,a₁,w₁,hq,.pass (x:= .inLoop c) ae (λ_ _=> .inl be) iP⟩
   |ret=>exact⟨_,a₁,w₁,hq,.pass (x:= .inLoop c) ae (λ_ _=> .inl be) iP⟩
   |panic ch=>exact⟨_,a₁,w₁,hq,.pass (x:= .inLoop c) ae (λ_ _=> .inl be) iP⟩
   |outgrown=>exact⟨_,a₁,w₁,hq,.pass (x:= .inLoop c) ae (λ_ _=> .inl be) iP⟩
 obtain⟨e,a',w',hq,iP⟩:=key _ x a w ae h₀
 exact⟨e,a',w',hq,.of_steps (.one (fenced_calm hb hr ae) stepR_loop) iP⟩
end
def de.re(F:de)(W:World)(g:Gh)(k:Nat):de:={F with w0:=W,H0:=g.H,own:=λb=>F.N b∧∀o:Obj,W.heap[b]? =some o→o.isCells=true,k0:=k,γ0:=g.γ}
def jn.Oc{N N':Nat→Prop}{g:Gh}{W:World}{id:Nat}{b:aK}(hN:∀(x:Nat)(vs:Array Value)(E:TypeId)(p:Nat×Nat),W.heap[x]? =some (.cells vs E p)→N x→N' x)(h:jn N g W id b):jn N' g W id b:=by
 cases b with
 |box E sz cs=>
  obtain⟨b,vs,rest,e,hh,hr,hn,hz⟩:=h
  exact⟨b,vs,rest,e,hh,hr,hN _ _ _ _ hh hn,hz⟩
 |vec E T xs=>
  rcases h with h|⟨b,cap,vs,e,hh,h1,h2,qo,h3,hn,hz⟩
  ·exact .inl h
  ·exact .inr ⟨b,cap,vs,e,hh,h1,h2,qo,h3,hN _ _ _ _ hh hn,hz⟩
 |fW f first caps=>exact h
 |fz E cs=>
  obtain⟨b,vs,rest,e,hh,hr,hn,hz⟩:=h
  exact⟨b,vs,rest,e,hh,hr,hN _ _ _ _ hh hn,hz⟩
section
variable{F:de}{k k':Nat}{σ σ':Kn}{g g':Gh}{W W':World}{a a':Act}
def bJ.re(h:bJ F (·<k) σ g W a):bJ (F.re W g k) (·<k) σ g W a:=by refine⟨h.size,h.defers,h.gG,λid b hb=>(h.df id b hb).Oc ?_,h.inj,h.aD,h.fF,h.sub,⟨ae,ae,ae,bD _,λ_ _ _=>rfl⟩,cF.refl _,λ_ _ _ _=>rfl,λid al=>⟨al,ae⟩⟩;intro x vs E p hx hn;refine .inr ⟨hn,λo ho=>?_⟩;rw[hx]at ho;cases ho;rfl
def bJ.un(h0:bJ F (·<k) σ g W a)(h:bJ (F.re W g k) (·<k') σ' g' W' a'):
  bJ F (·<k') σ' g' W' a'∧KeepsOthers W W'∧iL (·<k) g g':=by
 refine⟨⟨h.size,h.defers,h.gG,λid b hb=>(h.df id b hb).Oc ?_,h.inj,h.aD,h.fF,h.sub,?_,h0.le.trans h.le,?_,?_⟩,?_,h.le,λid al=>(h.iz id al).2⟩
 ·intro x vs E p hx hn;rcases hn with hn|hn
  ·exact .inl (dF h0.below.size hn)
  ·exact hn.1
 ·refine⟨h.below.os.trans h0.below.os,h.below.tape.trans h0.below.tape,h.below.output.trans h0.below.output,dF h0.below.size h.below.size,λj hj dY=>?_⟩;rw[←h0.below.block j hj dY];refine h.below.block j (kv hj h0.below.size) (λhc=>?_);rcases hc.1 with h1|h1
  ·omega
  ·exact dY h1
 ·intro b o hb dY;rw[←h0.fresh b o hb dY];refine h.fresh b o (kv hb h0.below.size) (λhc=>?_);rcases hc.1 with h1|h1
  ·omega
  ·exact dY h1
 ·intro id al;have h1:=h0.iz id al;have h2:=h.iz id h1.1;exact⟨h2.1,h2.2.trans h1.2⟩
 ·refine⟨h.below.size,λj o hj ho=>?_⟩;rw[←hj];refine h.below.block j (jU.1 hj).1 (λhc=>?_);rw[hc.2 o hj]at ho;cases ho
structure WX(B:Nat)(W W':World):Prop where
 os:W'.os=W.os
 tape:W'.tape=W.tape
 output:W'.output=W.output
 size:W.heap.size≤W'.heap.size
 same:∀(k:Nat)(o:Obj),W.heap[k]? =some o→o.isCells=true∨k<B→W'.heap[k]? =some o
def bJ.wx{known:Nat→Prop}(h:bJ F known σ g W a)(hx:WX F.w0.heap.size W W'):bJ F known σ g W' a:=by
 refine⟨h.size,h.defers,h.gG,λid b hb=>?_,h.inj,h.aD,h.fF,?_,⟨hx.os.trans h.below.os,hx.tape.trans h.below.tape,hx.output.trans h.below.output,dF h.below.size hx.size,λj hj dY=>?_⟩,h.le,h.fresh,h.iz⟩
 ·have hr:=h.df id b hb;cases b with
  |box E sz cs=>
   obtain⟨b,vs,rest,e,hh,hr,hn,hz⟩:=hr
   exact⟨b,vs,rest,e,hx.same _ _ hh (.inl ae),hr,hn,hz⟩
  |vec E T xs=>
   rcases hr with h|⟨b,cap,vs,e,hh,h1,h2,qo,h3,hn,hz⟩
   ·exact .inl h
   ·exact .inr ⟨b,cap,vs,e,hx.same _ _ hh (.inl ae),h1,h2,qo,h3,hn,hz⟩
  |fW f first caps=>exact hr
  |fz E cs=>
   obtain⟨b,vs,rest,e,hh,hr,hn,hz⟩:=hr
   exact⟨b,vs,rest,e,hx.same _ _ hh (.inl ae),hr,hn,hz⟩
 ·intro b o v hv;have hc:=h.sub b o v hv;obtain⟨ob,ho,hi⟩:=cells_of_cell hc;rw[←hc];exact World.cell?_of_block ((hx.same _ _ ho (.inl hi)).trans ho.symm)
 ·have hk:j<W.heap.size:=kv hj h.below.size;have rN:W.heap[j]? =some W.heap[j]:=WA hk;rw[hx.same j _ rN (.inr hj),←h.below.block j hj dY,rN]
def WX.refl(B:Nat)(W:World):WX B W W:=⟨ae,ae,ae,bD _,λ_ _ h _=>h⟩
def WX.trans{B:Nat}{A C D:World}(h:WX B A C)(h':WX B C D):WX B A D:=
 ⟨h'.os.trans h.os,h'.tape.trans h.tape,h'.output.trans h.output,dF h.size h'.size,λk o hk hc=>h'.same k o (h.same k o hk hc) hc⟩
def WX.alloc(B:Nat)(W:World)(o:Obj):WX B W (W.alloc o):=
 ⟨ae,ae,ae,by simp,λk _ hk _=>(Below.heap_alloc W o k (jU.1 hk).1).trans hk⟩
def WX.putObj{B:Nat}{W:World}{l:Nat}{o:Obj}(o':Obj)(hl:W.heap[l]? =some o)(ho:o.isCells=false)(hB:B≤l):WX B W (W.putObj l o'):=
 ⟨ae,ae,ae,by simp,λk ob hk hc=>by
  have aR:k≠l:=by
   intro e;subst e;rw[hl]at hk;cases hk;rcases hc with hc|hc
   ·rw[ho]at hc;cases hc
   ·omega
  rw[World.putObj_heap_other aR];exact hk⟩
def Gh.new(g:Gh)(k:Nat)(u:Value):Gh:=⟨g.H,λid=>if id=k then u else g.γ id⟩
end
section
variable{P:Program}{Fe:Fence}{n:Nat}{Q:Exit→Act→World→Prop}{a:Act}{w:World}
def apf{c:Code}(h:c.wpIn Fe n P (Exit.noGoto Q) a w):(Code.scope c).wpIn Fe n P Q a w:=by
 intro b k cs U3 hb hr;have s1:step P (lone (b.atR a (.code (.scope c)::k)) cs w)= .next (lone (b.atR a (.code c:: .inScope c::k)) cs w):=step_lone_go (by simp[Go.stepG,Go.stepG.exec,Frame.atR])
 have s2:∀a w,step P (lone (b.atR a (.inScope c::k)) cs w)= .next (lone (b.atR a k) cs w):=λa w=>step_lone_go (by simp[Go.stepG,Go.stepG.exec,Frame.atR])
 have h0:(lone (b.atR a (.code (.scope c)::k)) cs w).fenced P Fe:=fenced_calm hb hr ae;obtain⟨e,a₁,w₁,hq,iP⟩:=h b (.inScope c::k) cs U3 hb hr;cases e with
 |normal=>exact⟨.normal,a₁,w₁,hq,.head h0 s1 (StepsIn.trans iP (.one (fenced_calm hb hr ae) (s2 _ _)))⟩
 |exit id=>
  refine⟨.exit id,a₁,w₁,hq,λk' hk=> .head h0 s1 (iP.1 k' (by simp[exitTo,hk])),λEv hk=>?_⟩
  obtain⟨k₁,h1,h2⟩:=iP.2 Ev (by simp[exitTo,hk])
  exact⟨k₁,h1,.head h0 s1 h2⟩
 |goto l=>exact hq.elim
 |ret=>exact⟨_,a₁,w₁,hq,.of_steps (.one h0 s1) iP⟩
 |panic ch=>exact⟨_,a₁,w₁,hq,.of_steps (.one h0 s1) iP⟩
 |outgrown=>exact⟨_,a₁,w₁,hq,.of_steps (.one h0 s1) iP⟩
end
section
variable{P:Program}{tt:TT}
def tH(fn:FuncId)(tmps:Array Value)(p:Nat)(iX bd:Code)(D:Nat)(pd:Option Code):Loop:=
 {state:=if pd.isNone then .ready else .done,pending:=pd,fn:=fn,tmps:=tmps,params:= #[p],assign:=iX,body:=bd,defers:=D}
variable{F:de}{dep n atU n0:Nat}{a0:Act}{ds0:List Deferred}{kt l:Nat}{nm:FuncId}{p D:Nat}{iX bd:Code}{mk:List Nat}
end
def tI(D:Nat):Deferred:={target:= .collected D,args:= #[]}
section
variable{P:Program}{tt:TT}
def ad5{fn:Func}{tmps:Array Value}{R:Ending→World→Prop}{B:Nat}:∀(mk:List Nat)(W:World),(∀D∈mk,W.heap[D]? =some (.deferred (some []))∧B≤D)→mk.Nodup→
  (∀W',WX B W W'→∃v,(results fn tmps).run P W'= .ok v W'∧R (.returned v) W')→LeavesInM (gH none) 0 P fn tmps R (mk.map tI) .returning W
 |[],W,_,_,h=>h W (WX.refl _ _)
 |D::mk,W,hm,fK,h=>by
  have h0:=hm D be;have hx:=WX.putObj (B:=B) (.deferred none) h0.1 ae h0.2;refine⟨by simp,.inl ⟨D,_,ae,run_takeDeferred h0.1,?_⟩⟩;refine ad5 mk _ (λD' F3=>⟨?_,(hm D' (by simp[F3])).2⟩) (Bm.1 fK).2 (λW' lT=>h W' (hx.trans lT));have aR:D'≠D:=λe=>(Bm.1 fK).1 (e▸F3)
  rw[World.putObj_heap_other aR];exact(hm D' (by simp[F3])).1
end
section
variable{P:Program}{tt:TT}
def aph{ops:Array Oper}{draw:Bool}{st:St}{Q:St→Prop}{F:de}{id:Nat}{R:Exit→Act→World→Prop}(fK:zQ F.rd ops)(oM:P.follows .mixedOrders=true)(h:RG P F.n ops draw st.nx 0 ops.toList st [] Q)
  (hQ:∀st',Q st'→∀g W a,bJ F (kb st') st'.kn g W a→R .normal a W) {g:Gh} {W:World} {a:Act} (h0:bJ F (kb st) st.kn g W a):(Code.region id ops draw).wpIn (gH F.rd) 0 P R a W:=by
 obtain⟨ds,st',hl,h1,h2,h3,h4,rI,h5,h6⟩:=h be
 have GQ:ds.length=ops.size:=Gl
 have hs:∀i,i<ops.size→zR P F.n ops i ((ds.getD i ([],[])).1) ((ds.getD i ([],[])).2) (sQ (λi=>1000000*st.nx+1000*i) i):=by intro i hi;have:=h1 i af;rw[BL ds _ i af];simpa using this
 have ht:∀i,i<ops.size→∀kx∈(ds.getD i ([],[])).1,fold (λi=>(ds.getD i ([],[])).2) st.kn (List.range i) kx.1=some kx.2:=by intro i hi kx aS;rw[Lf ds st.kn i af];rw[BL ds _ i af]at aS;exact h2 i af kx aS
 have tY:∀g W a,bJ F (·<1000000*st.nx+1000*ops.size) (fold (λi=>(ds.getD i ([],[])).2) st.kn (List.range ops.size)) g W a→R .normal a W:=by intro g W a hh;refine hQ st' h6 g W a ?_;rw[h3];rw[Lf ds st.kn ops.size af,lI af]at hh;exact hh.weaken (λid al=>by simp only[kb,h4];omega)
 cases draw with
 |false=>exact Xl (c:=λi=>1000000*st.nx+1000*i) (λi=>by show 1000000*st.nx+1000*i≤1000000*st.nx+1000*(i+1);omega) h0 hs ht tY fK
 |true=>
  obtain⟨ks,⟨rK,z6⟩,BK⟩:=h5 ae
  have ho:=XM BK
  have BM:∀i j,i<j→j<ops.size→∀a b:Ks,(ks[i]? =some a→ks[j]? =some b→sW a b=true→oL ops i j):=by intro i j nA hj a b ha hb hc;exact ho.2 i j a b nA hj (by simpa using ha) (by simpa using hb) hc
  have m7:∀i(hi:i<ops.size),∃a,ks[i]? =some a∧(∀k∈dT (ds.getD i ([],[])).1,k∈a.1)∧∀k∈fi (ds.getD i ([],[])).2,k∈a.2:=by intro i hi;have tZ:i<ks.length:=af;refine⟨ks[i],cr tZ,?_⟩;rw[BL ds _ i af];exact z6 i af tZ
  refine Xn (c:=λi=>1000000*st.nx+1000*i) (λi=>by show 1000000*st.nx+1000*i≤1000000*st.nx+1000*(i+1);omega) oM ho.1 h0 hs ht ?_ ?_ ?_ tY fK
  ·intro i j nA hj k gT dR;obtain⟨a,ha,_,wU⟩:=m7 i af;obtain⟨b,hb,_,dO⟩:=m7 j hj;exact BM i j nA hj a b ha hb (by simp only[sW,Ek (wU k gT) (dO k dR),PH])
  ·intro i j nA hj k gT dR;obtain⟨a,ha,_,wU⟩:=m7 i af;obtain⟨b,hb,jq,_⟩:=m7 j hj;exact BM i j nA hj a b ha hb (by simp only[sW,Ek (wU k gT) (jq k dR),PH,PI])
  ·intro i j nA hj k gT dR;obtain⟨a,ha,wV,_⟩:=m7 i af;obtain⟨b,hb,_,dO⟩:=m7 j hj;exact BM i j nA hj a b ha hb (by simp only[sW,Ek (wV k gT) (dO k dR),PI])
def de.dr(F:de)(ds:List Deferred):de:={F with ds:=ds}
abbrev wc:=de→List Deferred→World→Prop
def A6(O:wc):Prop:=∀F ds W W',KeepsOthers W W'→O F ds W→O F ds W'
variable{n:Nat}{Q:fG}{st:St}{O:wc}
def gM(n:Nat)(e:Exit)(st:St)(O:wc)(Q:fG):Prop:=∀F:de,F.n=n→F.k0≤1→∀ds g W a,bJ (F.dr ds) (kb st) st.kn g W a→O F ds W→Q F e a W
def TJ(P:Program)(n:Nat)(c:Code)(st:St)(O:wc)(Q:fG):Prop:=∀F:de,F.n=n→F.k0≤1→qG F.rd c→∀ds g W a,bJ (F.dr ds) (kb st) st.kn g W a→O F ds W→c.wpIn (gH F.rd) 0 P (Q F) a W
def Od(P:Program)(y:Code)(Q:fG):fG:=λF=>Exit.then (λa W=>qG F.rd y→y.wpIn (gH F.rd) 0 P (Q F) a W) (Q F)
def C9(id:Nat)(Q:fG):fG:=λF=>Exit.inBlock id (Q F)
def JD{α:Type}(iC:α→St)(φ:α→Prop)(μ:α→Nat)(x:α)(O:wc)(Q:fG):fG:=λF=>Exit.then (λa W=>∃x' g ds,φ x'∧μ x'<μ x∧bJ (F.dr ds) (kb (iC x')) (iC x').kn g W a∧O F ds W) (Q F)
def rq{x y:Code}(h:TJ P n x st O (Od P y Q)):TJ P n (.seq x y) st O Q:=λF hF hk fK ds g W a hh ho=>by
 obtain⟨h1,h2⟩:=fK.seq;refine wpIn_seq (wpIn_mono (h F hF hk h1 ds g W a hh ho) ?_);intro e a' W' hq;cases e with
 |normal=>exact hq h2
 |_=>exact hq
def C'(h:gM n .normal st O Q):TJ P n .skip st O Q:=λF hF hk _ ds g W a hh ho=>wpIn_skip (h F hF hk ds g W a hh ho)
def api{l:Nat}(h:gM n .normal st O Q):TJ P n (.label l) st O Q:=λF hF hk _ ds g W a hh ho=>wpIn_label (h F hF hk ds g W a hh ho)
def JE{id:Nat}(h:gM n (.exit id) st O Q):TJ P n (.exit id) st O Q:=λF hF hk _ ds g W a hh ho=>wpIn_exit (h F hF hk ds g W a hh ho)
def ad6(h:gM n .ret st O Q):TJ P n .ret st O Q:=λF hF hk _ ds g W a hh ho=>wpIn_ret (h F hF hk ds g W a hh ho)
def uL{id:Nat}{c:Code}(h:TJ P n c st O (C9 id Q)):TJ P n (.block id c) st O Q:=λF hF hk fK ds g W a hh ho=>wpIn_block (h F hF hk fK ds g W a hh ho)
def xG{c:Operand}{x y:Code}{b:Bool}(hc:st.ev c=some (.c (.B b)))(ht:b=true→TJ P n x st O Q)(hf:b=false→TJ P n y st O Q):TJ P n (.cond c x y) st O Q:=by intro F hF hk fK ds g W a hh ho;obtain⟨h1,h2⟩:=fK.cond;have hr:bP g (.c (.B b)) (a.eval c):=gI hh st c _ hc (gn st c);exact wpIn_cond_split hr (λe=>ht e F hF hk h1 ds g W a hh ho) (λe=>hf e F hF hk h2 ds g W a hh ho)
def Oe{id:Nat}{ops:Array Oper}{draw:Bool}(oM:P.follows .mixedOrders=true)(hO:A6 O)(h:RG P n ops draw st.nx 0 ops.toList st [] (λst'=>gM n .normal st' O Q)):TJ P n (.region id ops draw) st O Q:=by intro F hF hk fK ds g W a hh ho;subst hF;refine aph (F:=(F.dr ds).re W g (1000000*st.nx)) (st:=st) fK.region oM h (λst' hq g' W' a' Hn=>?_) (bJ.re (k:=1000000*st.nx) hh);obtain⟨h1,h2,_⟩:=bJ.un (k:=1000000*st.nx) (k':=1000000*st'.nx) hh Hn;exact hq F ae hk ds g' W' a' h1 (hO F ds W W' h2 ho)
def Da{c:Code}{st':St}(hw:Wk st st')(h:TJ P n c st' O Q):TJ P n c st O Q:=by intro F hF hk fK ds g W a hh ho;obtain⟨g',h'⟩:=hw (F.dr ds) hk g W a hh;exact h F hF hk fK ds g' W a h' ho
def ad7{e:Exit}{st':St}(hw:Wk st st')(h:gM n e st' O Q):gM n e st O Q:=by intro F hF hk ds g W a hh ho;obtain⟨g',h'⟩:=hw (F.dr ds) hk g W a hh;exact h F hF hk ds g' W a h' ho
def oA{y:Code}(h:TJ P n y st O Q):gM n .normal st O (Od P y Q):=λF hF hk ds g W a hh ho fK=>h F hF hk fK ds g W a hh ho
def JF{y:Code}{id:Nat}(h:gM n (.exit id) st O Q):gM n (.exit id) st O (Od P y Q):=h
def ad8{y:Code}(h:gM n .ret st O Q):gM n .ret st O (Od P y Q):=h
def A7{id:Nat}(h:gM n .normal st O Q):gM n .normal st O (C9 id Q):=h
def F4{id:Nat}(h:gM n .ret st O Q):gM n .ret st O (C9 id Q):=h
def JG{id:Nat}(h:gM n .normal st O Q):gM n (.exit id) st O (C9 id Q):=λF hF hk ds g W a hh ho=>by simp only[C9,Exit.inBlock,cP];exact h F hF hk ds g W a hh ho
def ad9{id b9:Nat}(h:gM n (.exit b9) st O Q)(aR:b9≠id:=by decide):gM n (.exit b9) st O (C9 id Q):=λF hF hk ds g W a hh ho=>by simp only[C9,Exit.inBlock,aR,cV];exact h F hF hk ds g W a hh ho
def Og{α:Type}{iC:α→St}{φ:α→Prop}{μ:α→Nat}{x:α}{id:Nat}(h:gM n (.exit id) st O Q):gM n (.exit id) st O (JD iC φ μ x O Q):=h
def apj{α:Type}{iC:α→St}{φ:α→Prop}{μ:α→Nat}{x:α}(h:gM n .ret st O Q):gM n .ret st O (JD iC φ μ x O Q):=h
def Db{α:Type}{iC:α→St}{φ:α→Prop}{μ:α→Nat}{x:α}(x':α)(h1:φ x')(h2:μ x'<μ x)(hw:Wk st (iC x')):gM n .normal st O (JD iC φ μ x O Q):=by intro F hF hk ds g W a hh ho;obtain⟨g',h'⟩:=hw (F.dr ds) hk g W a hh;exact⟨x',g',ds,h1,h2,h',ho⟩
def JH{α:Type}(iC:α→St)(φ:α→Prop)(μ:α→Nat)(x0:α){c:Code}(h0:φ x0)(hw:Wk st (iC x0))(round:∀x,φ x→TJ P n c (iC x) O (JD iC φ μ x O Q)):TJ P n (.loop c) st O Q:=by
 intro F hF hk fK ds g W a hh ho;obtain⟨g',h'⟩:=hw (F.dr ds) hk g W a hh;refine ape (λx a W=>φ x∧∃g ds,bJ (F.dr ds) (kb (iC x)) (iC x).kn g W a∧O F ds W) μ x0 ⟨h0,g',ds,h',ho⟩ ?_;rintro x a W ⟨hφ,g,ds,hg,ho⟩;refine wpIn_mono (round x hφ F hF hk fK.loop ds g W a hg ho) ?_;intro e a' W' hq;cases e with
 |normal=>
  obtain⟨x',Qx,ds',h1,h2,h3,h4⟩:=hq
  exact⟨x',⟨h1,Qx,ds',h3,h4⟩,h2⟩
 |_=>exact hq
def apk{c:Code}(h:TJ P n c st O (λF=>Exit.noGoto (Q F))):TJ P n (.scope c) st O Q:=λF hF hk hn ds g W a hh ho=>apf (h F hF hk (hn.elim .inl λe=>by cases e) ds g W a hh ho)
end
section
variable{F:de}{sl sl':List (Nat×AV)}{M M':List (Nat×aK)}{nx nx':Nat}{gd gd':List (Nat×Bool)}{g g':Gh}{W W':World}{a a':Act}{K:Nat→Prop}
def bJ.frame{n':Nat}{ds':List Deferred}{rd':Option Nat}(h:bJ F K (St.kn ⟨sl,M,nx,gd⟩) g W a)(hs:a'.tmps.size=n')(hd:a'.defers=ds')(xx:∀t v,ao t sl'=some v→bP g v (a'.tmps.getD t undef)∧∀id∈v.aD,K id)(hM:∀id b,ao id M'=some b→ao id M=some b):
  bJ {F with n:=n',ds:=ds',rd:=rd'} K (St.kn ⟨sl',M',nx',gd'⟩) g W a':=by
 have hm:∀id x,(St.kn ⟨sl',M',nx',gd'⟩) (.m id)=some x→(St.kn ⟨sl,M,nx,gd⟩) (.m id)=some x:=by intro id x hx;simp only[St.kn,ct]at hx⊢;obtain⟨b,hb,e⟩:=hx;exact⟨b,hM id b hb,e⟩
 refine⟨hs,hd,λt v hv=>?_,λid b hb=>h.df id b (hm _ _ hb),λid b9 b b' k h1 h2 h3 h4=>h.inj id b9 b b' k (hm _ _ h1) (hm _ _ h2) h3 h4,λkey x hx id al=>?_,λid x hx=>h.fF id x (hm _ _ hx),h.sub,h.below,h.le,h.fresh,h.iz⟩
 ·simp only[St.kn,ct]at hv;obtain⟨y,hy,e⟩:=hv;cases e;exact(xx t v hy).1
 ·cases key with
  |m j=>exact h.aD (.m j) x (hm _ _ hx) id al
  |s j=>
   simp only[St.kn,ct]at hx
   obtain⟨y,hy,e⟩:=hx
   subst e
   exact(xx j y hy).2 id al
def bJ.re1{k:Nat}{σ:Kn}(h:bJ F (·<k) σ g W a)(hk:1≤k):bJ (F.re W g 1) (·<k) σ g W a:=by have h1:=h.re;exact⟨h1.size,h1.defers,h1.gG,h1.df,h1.inj,h1.aD,h1.fF,h1.sub,h1.below,h1.le,h1.fresh,λid al=>⟨by have:id<1:=al;omega,ae⟩⟩
def bJ.un1{k k':Nat}{σ σ':Kn}(h0:bJ F (·<k) σ g W a)(gV:F.k0≤1)(h:bJ (F.re W g 1) (·<k') σ' g' W' a'):
  bJ F (·<k') σ' g' W' a'∧KeepsOthers W W'∧iL (·<1) g g':=by
 refine⟨⟨h.size,h.defers,h.gG,λid b hb=>(h.df id b hb).Oc ?_,h.inj,h.aD,h.fF,h.sub,?_,h0.le.trans h.le,?_,?_⟩,?_,h.le,λid al=>(h.iz id al).2⟩
 ·intro x vs E p hx hn;rcases hn with hn|hn
  ·exact .inl (dF h0.below.size hn)
  ·exact hn.1
 ·refine⟨h.below.os.trans h0.below.os,h.below.tape.trans h0.below.tape,h.below.output.trans h0.below.output,dF h0.below.size h.below.size,λj hj dY=>?_⟩;rw[←h0.below.block j hj dY];refine h.below.block j (kv hj h0.below.size) (λhc=>?_);rcases hc.1 with h1|h1
  ·omega
  ·exact dY h1
 ·intro b o hb dY;rw[←h0.fresh b o hb dY];refine h.fresh b o (kv hb h0.below.size) (λhc=>?_);rcases hc.1 with h1|h1
  ·omega
  ·exact dY h1
 ·intro id al;have h1:=h0.iz id al;have h2:=h.iz id (show id<1 by omega);exact⟨h2.1,h2.2.trans h1.2⟩
 ·refine⟨h.below.size,λj o hj ho=>?_⟩;rw[←hj];refine h.below.block j (jU.1 hj).1 (λhc=>?_);rw[hc.2 o hj]at ho;cases ho
def nR(ws:List Value):Value:= .func (.func 0) #[] ws.toArray
def bJ.ghost{k:Nat}(h:bJ F (·<k) (St.kn ⟨sl,M,nx,gd⟩) g W a)(hk:1≤k)(gV:F.k0=0)(hz:∀t v,ao t sl=some v→0∉v.aD)(F5:∀id b,ao id M=some b→id≠0∧0∉b.aD){caps:List (Bool×List C)}{ws:List Value}(hr:dv g caps ws)(hc:∀id∈fJ caps,id≠0∧id<k):
  bJ {F with k0:=1,γ0:=λ_=>nR ws} (·<k) (St.kn ⟨sl,(0,.fW 0 [] caps)::M,nx',gd'⟩) (g.new 0 (nR ws)) W a:=by
 have jP:iL (λid=>id≠0) g (g.new 0 (nR ws)):=⟨cF.refl _,λid al=>by simp[Gh.new,al]⟩
 have hx:Ext (λid=>id≠0) (λ_=>False) g W (g.new 0 (nR ws)) W:=⟨jP,λ_ _ _=>rfl,h.sub,bD _,λ_ _ _=>rfl,ae,ae,ae⟩
 have U4:(g.new 0 (nR ws)).γ 0=nR ws:=by simp[Gh.new]
 have hM:∀id b,(St.kn ⟨sl,(0,.fW 0 [] caps)::M,nx',gd'⟩) (.m id)=some (.b b)→(id=0∧b= .fW 0 [] caps)∨(id≠0∧ao id M=some b):=by
  intro id b hb;simp only[St.kn,ao,ct]at hb;obtain⟨y,hy,e⟩:=hb;cases e;split at hy
  ·rename_i e;cases hy;exact .inl ⟨e.symm,ae⟩
  ·rename_i e;exact .inr ⟨λh=>e h.symm,hy⟩
 have JI:∀id b,ao id M=some b→(St.kn ⟨sl,M,nx,gd⟩) (.m id)=some (.b b):=λid b hb=>by simp[St.kn,hb]
 refine⟨h.size,h.defers,λt v hv=>?_,λid b hb=>?_,λid b9 b b' kk h1 h2 h3 h4=>?_,λkey x lT id al=>?_,λid x lT=>?_,h.sub,h.below,h.le,h.fresh,λid al=>?_⟩
 ·simp only[St.kn,ct]at hv;obtain⟨y,hy,e⟩:=hv;cases e;exact bP.mono jP (λid al e=>hz t v hy (e▸al)) (h.gG t v (by simp[St.kn,hy]))
 ·rcases hM id b hb with⟨rfl,rfl⟩|⟨aR,du⟩
  ·exact⟨[],ws,U4,ae,dv.mono jP (λid al=>(hc id al).1) hr⟩
  ·exact(h.df id b (JI id b du)).step hx aR (λj hj e=>(F5 id b du).2 (e▸hj)) (λ_ _ hf _=>hf.elim)
 ·have aR:∀id b,(St.kn ⟨sl,(0,.fW 0 [] caps)::M,nx',gd'⟩) (.m id)=some (.b b)→cQ ((g.new 0 (nR ws)).γ id)=some kk→ao id M=some b∧cQ (g.γ id)=some kk:=by
   intro id b hb dx;rcases hM id b hb with⟨rfl,rfl⟩|⟨aR,du⟩
   ·rw[U4]at dx;simp[nR,cQ]at dx
   ·rw[jP.γ id aR]at dx;exact⟨du,dx⟩
  obtain⟨p1,p2⟩:=aR id b h1 h3;obtain⟨q1,q2⟩:=aR b9 b' h2 h4;exact h.inj id b9 b b' kk (JI _ _ p1) (JI _ _ q1) p2 q2
 ·cases key with
  |s j=>
   exact h.aD (.s j) x lT id al
  |m j=>
   cases x with
   |v _=>simp[St.kn]at lT
   |b y=>
    rcases hM j y lT with⟨rfl,rfl⟩|⟨aR,du⟩
    ·have:id∈fJ caps:=by simpa[Info.aD,aK.aD,fJ]using al
     exact(hc id this).2
    ·exact h.aD (.m j) (.b y) (JI j y du) id al
 ·cases x with
  |v _=>simp[St.kn]at lT
  |b y=>
   rcases hM id y lT with⟨rfl,rfl⟩|⟨aR,du⟩
   ·exact hk
   ·exact h.fF id (.b y) (JI id y du)
 ·have:id=0:=by have:id<1:=al;omega
  subst this;exact⟨hk,U4⟩
def bJ.Oh{k:Nat}{σ:Kn}(h:bJ F (·<k) σ g W a){ws:List Value}(hk:F.k0=1)(hγ:F.γ0 0=nR ws){caps:List (Bool×List C)}(hs:σ (.m 0)=some (.b (.fW 0 [] caps))):dv g caps ws:=by
 obtain⟨us,vs,e,_,h2⟩:=h.df 0 _ hs;have e2:=(h.iz 0 af).2;rw[e2,hγ]at e;simp only[nR,Value.func.injEq]at e;have:ws=vs:=by have:=e.2.2;simpa using this
 rw[this];exact h2
end
section
variable{P:Program}{tt:TT}
inductive SG(P:Program)(n:Nat)(ops:Array Oper)(nx:Nat):Nat→St→Nat→St→Prop
 |nil {i:Nat} {st st':St} (h:st'.kn=st.kn):SG P n ops nx i st i st'
 |cons {i j:Nat} {st st1 st2:St} {ks:Ks} (h:ll P n ops i st st1 (1000000*nx+1000*i) ks) (t:SG P n ops nx (i+1) st1 j st2):SG P n ops nx i st j st2
def SG.eq{n:Nat}{ops:Array Oper}{nx i j:Nat}{st st0 st2:St}(h:SG P n ops nx i st j st2)(e:st0.kn=st.kn):SG P n ops nx i st0 j st2:=by
 cases h with
 |nil h=>exact .nil (h.trans e.symm)
 |cons h t=>
  obtain⟨rd,wr,s1,s2,s3,s4,s5⟩:=h
  exact .cons ⟨rd,wr,s1,λkx aS=>by rw[e];exact s2 kx aS,by rw[e];exact s3,s4,s5⟩ t
def SG.le{n:Nat}{ops:Array Oper}{nx i j:Nat}{st st2:St}(h:SG P n ops nx i st j st2):i≤j:=by
 induction h with
 |nil _=>exact bD _
 |cons _ _ ih=>omega
def SG.sound{n:Nat}{ops:Array Oper}{nx i j:Nat}{st st2:St}(h:SG P n ops nx i st j st2):∀(F:de),F.n=n→zQ F.rd ops→∀(Q:Exit→Act→World→Prop)(rest:List Nat) g W a,bJ F (·<1000000*nx+1000*i) st.kn g W a→
  (∀g' W' a',bJ F (·<1000000*nx+1000*j) st2.kn g' W' a'→wpOpsIn (gH F.rd) 0 P ops Q rest a' W')→wpOpsIn (gH F.rd) 0 P ops Q (List.range' i (j-i)++rest) a W:=by
 induction h with
 |nil h=>
  intro F hF fK Q rest g W a hh hK
  rw[iw]
  exact hK g W a (by rw[h];exact hh)
 |@cons i j st st1 st2 ks h t ih=>
  intro F hF fK Q rest g W a hh hK
  have hle:=t.le
  obtain⟨rd,wr,dh,bw,eS,_,_⟩:=h
  rw[show j-i=(j-(i+1))+1 by omega,List.range'_succ,mX,wpOpsIn_cons]
  refine P0 (fK i) ?_
  refine dh F hF _ (·<1000000*nx+1000*i) _ g W a _ (Nat.lt_irrefl _) hh bw (λg' W' a' h'=>?_)
  rw[←eS]at h'
  exact ih F hF fK Q rest g' W' a' (h'.weaken (λid al=>by rcases al with al|al<;>omega)) hK
def aec{n nx:Nat}{ops:Array Oper}(aT:cM P tt=true):∀(os:List Oper)(i:Nat)(st:St)(p:Pr)(ks:List Ks){cG:List Oper}{i' j:Nat}{st' st2:St}{p':Pr}{cp:List Ks},runs tt n nx false ops.toList os i st p ks=(cG,i',st',p',cp)→p'→(∀q o,os[q]? =some o→ops[i+q]? =some o)→(p→SG P n ops nx i' st' j st2→SG P n ops nx i st j st2)∧p
 |[],i,st,p,ks,cG,i',j,st',st2,p',cp,h,hp,_=>by simp only[runs,cE]at h;obtain⟨rfl,rfl,rfl,rfl,rfl⟩:=h;exact⟨λ_ h=>h,hp⟩
 |o::os,i,st,p,ks,cG,i',j,st',st2,p',cp,h,hp,hg=>by
  rw[runs]at h;split at h
  ·rename_i st1 q k h1;obtain⟨g1,g2⟩:=aec aT os (i+1) st1 (.an p q) (fp false ks k) (j:=j) (st2:=st2) h hp (λr o' KV=>by have:=hg (r+1) o' (by simpa using KV);rwa[show i+(r+1)=i+1+r by omega]at this);have g3:p.h∧q.h:=by have:(Pr.an p q).h:=g2;cases p<;>cases q<;>simp_all[Pr.an,Pr.h]
   refine⟨λ_ hsg=> .cons (XH aT (hg 0 o ae) h1 g3.2) (g1 g2 hsg),g3.1⟩
  ·simp only[cE]at h;obtain⟨rfl,rfl,rfl,rfl,rfl⟩:=h;exact⟨λ_ h=>h,hp⟩
end
structure p7 where
 n0:Nat
 a0:Act
 S0:List (Nat×AV)
 caps:List (Bool×List C)
 ws:List Value
 l:Nat
 D:Nat
 nm:FuncId
 p:Nat
 iX:Code
 bd:Code
 ms:List Nat
def p7.O(R:p7)(pd:Option Code):wc:=λF ds W=>F.k0=1∧F.γ0 0=nR R.ws∧F.rd=none∧ds=[]∧F.w0.heap.size≤R.l∧W.heap[R.l]? =some (.loop (tH R.nm R.a0.tmps R.p R.iX R.bd R.D pd))∧∀D∈R.ms,W.heap[D]? =some (.deferred (some []))
def p7.aed(R:p7)(pd:Option Code):A6 (R.O pd):=λ_ _ _ _ hk ⟨h1,h2,h3,h4,h5,h6,h7⟩=>⟨h1,h2,h3,h4,h5,hk.same _ _ h6 ae,λD hD=>hk.same _ _ (h7 D hD) ae⟩
structure p7.Ok(R:p7):Prop where
 hp:R.p<R.n0
 cR:R.a0.tmps.size=R.n0
 Oi:R.l∉R.ms
 U5:rT R.iX=true
 U6:rT R.bd=true
 cap:∀g,dv g R.caps R.ws→∀t v,ao t R.S0=some v→bP g v (R.a0.tmps.getD t undef)
 sp:ao R.p R.S0=none
def xH:wc:=λ_ ds _=>ds=[]
def aee:A6 xH:=λ_ _ _ _ _ h=>h
def JJ(bo:Bool)(xid:Nat)(Mo:List (Nat×aK)):fG:=λF e a W=>e=(if bo then .normal else .exit xid)∧∃g nx',1≤nx'∧bJ (F.dr []) (·<1000000*nx') (St.kn ⟨[],Mo,nx',[]⟩) g W a
def oB(bo:Bool)(xid:Nat):Option Code:=if bo then none else some (.exit xid)
section
variable{P:Program}{R:p7}
def apm(ok:R.Ok){xid:Nat}{stB:St}{v:AV}{nxr:Nat}{M Mo:List (Nat×aK)}{bo:Bool}(Ii:1≤nxr)(EY:1≤stB.nx)
  (hA:TJ P R.n0 R.iX ⟨(R.p,v)::R.S0,M,nxr,[]⟩ xH (λF e a W=>e= .normal∧∃g,bJ (F.dr []) (kb stB) stB.kn g W a))
  (hB:TJ P R.n0 R.bd stB xH (JJ bo xid Mo))
  {F:de} {k:Nat} {slI:List (Nat×AV)} {nxI:Nat} {gdI:List (Nat×Bool)} {g:Gh} {W:World} {aI:Act} (h:bJ F (·<k) (St.kn ⟨slI,M,nxI,gdI⟩) g W aI) (hk:k≤1000000*nxr) (Oj:ao 0 M=some (.fW 0 [] R.caps)) (JK:∀t v,ao t R.S0=some v→∀id∈v.aD,id<k)
  {u:Value} (hv:bP g v u) (U7:v.aD=[]) (hO:R.O none F [] W) {Rr:Ending→World→Prop}
  (hR:∀g' W' nx' a',1≤nx'→bJ {F with n:=R.n0,ds:=[],rd:=some R.l} (·<1000000*nx') (St.kn ⟨[],Mo,nx',[]⟩) g' W' a'→cF g.H g'.H→KeepsOthers W W∧R.O (oB bo xid) F [] W'→Rr (.returned (.bool bo)) W'):
  RoundIn (gH none) 0 P R.l R.nm (R.a0.tmps.setIfInBounds R.p u) R.iX R.bd W Rr:=by
 obtain⟨o1,o2,o3,o4,o5,o6,o7⟩:=hO
 have bW:=h.Oh o1 o2 (caps:=R.caps) (by simp[St.kn,Oj])
 have h0:bJ {F with n:=R.n0,ds:=[],rd:=some R.l} (·<1000000*nxr) (St.kn ⟨(R.p,v)::R.S0,M,nxr,[]⟩) g W {tmps:=R.a0.tmps.setIfInBounds R.p u,defers:=[]}:=by
  refine bJ.frame (h.weaken (λid al=>kv al hk)) (by simpa using ok.cR) ae (λt w hw=>?_) (λid b hb=>hb);simp only[ao]at hw;split at hw
  ·rename_i e;cases hw;subst e;have br:R.p<R.a0.tmps.size:=by rw[ok.cR];exact ok.hp
   refine⟨by simpa[br]using hv,λid al=>by rw[U7]at al;cases al⟩
  ·rename_i e;have h1:=ok.cap g bW t w hw;refine⟨?_,λid al=>kv (JK t w hw id al) hk⟩;have:=nT (xs:=R.a0.tmps) (a:=u) e;simpa[this]using h1
 refine roundIn_of_wpIn (F:=gH none) ah ?_
 refine wpIn_mono (F:=gH (some R.l)) (hA (({F with n:=R.n0,ds:=[],rd:=some R.l}:de).re W g 1) ae (bD _) (.inr ok.U5) [] g W _ (bJ.re1 h0 af) ae) ?_
 rintro e1 a1 W1 ⟨rfl,gB,U8⟩
 obtain⟨b1,b2,b3⟩:=bJ.un1 h0 (PK o1) (k':=1000000*stB.nx) U8
 have n5:=b2.same _ _ o6 ae
 refine⟨_,run_beginRound n5 ae,?_⟩
 have apr:R.l<W1.heap.size:=(jU.1 n5).1
 have eB:=b1.wx (WX.putObj (.loop {tH R.nm R.a0.tmps R.p R.iX R.bd R.D none with state:= .busy}) n5 ae o5)
 refine wpIn_mono (F:=gH (some R.l)) (hB (({F with n:=R.n0,ds:=[],rd:=some R.l}:de).re _ gB 1) ae (bD _) (.inr ok.U6) [] gB _ _ (bJ.re1 (k:=1000000*stB.nx) eB af) ae) ?_
 rintro e2 a2 W2 ⟨N6,gC,nx',JC,U9⟩
 obtain⟨c1,c2,c3⟩:=bJ.un1 eB (PK o1) (k':=1000000*nx') U9
 have qu:=c2.same _ _ (World.putObj_heap_same (o:= .loop {tH R.nm R.a0.tmps R.p R.iX R.bd R.D none with state:= .busy}) apr) ae
 have aps:R.l<W2.heap.size:=(jU.1 qu).1
 have tY:∀pd:Option Code,pd=oB bo xid→R.O pd F [] (W2.putObj R.l (.loop (tH R.nm R.a0.tmps R.p R.iX R.bd R.D pd))):=by
  intro pd _;refine⟨o1,o2,o3,ae,o5,World.putObj_heap_same aps,λD' F3=>?_⟩;have aR:D'≠R.l:=λe=>ok.Oi (e▸F3)
  rw[World.putObj_heap_other aR];refine c2.same _ _ ?_ ae;rw[World.putObj_heap_other aR];exact b2.same _ _ (o7 D' F3) ae
 have aef:=run_endRound (P:=P) (oB bo xid) qu
 have hw:∀o',bJ {F with n:=R.n0,ds:=[],rd:=some R.l} (·<1000000*nx') (St.kn ⟨[],Mo,nx',[]⟩) gC (W2.putObj R.l o') a2:=λo'=>c1.wx (WX.putObj o' qu ae o5)
 have aeg:∀(w:World),w=W2.putObj R.l (.loop (tH R.nm R.a0.tmps R.p R.iX R.bd R.D (oB bo xid)))→Rr (.returned (.bool (oB bo xid).isNone)) w:=by
  rintro w rfl;have:(oB bo xid).isNone=bo:=by unfold oB;cases bo<;>rfl
  rw[this];exact hR gC _ nx' a2 JC (hw _) (b3.H.trans c3.H) ⟨KeepsOthers.refl _,tY _ ae⟩
 subst N6
 cases bo with
 |true=>exact⟨_,_,aef,aeg _ ae⟩
 |false=>exact⟨_,_,aef,aeg _ ae⟩
def bJ.restrict{F:de}{K K':Nat→Prop}{σ:Kn}{g:Gh}{W:World}{a:Act}(h:bJ F K σ g W a)(h1:∀k x,σ k=some x→∀id∈x.aD,K' id)(h2:∀id x,σ (.m id)=some x→K' id)(h3:∀id,id<F.k0→K' id):bJ F K' σ g W a:=
 ⟨h.size,h.defers,h.gG,h.df,h.inj,h1,h2,h.sub,h.below,h.le,h.fresh,λid al=>⟨h3 id al,(h.iz id al).2⟩⟩
def apt(ok:R.Ok){n:Nat}{ops:Array Oper}{st st1 Va:St}{id i d j x:Nat}{o:Oper}{dn:Array TypeId}(ho:ops[i]? =some o)(apu:o.dst=some d)(ck:o.op= .call ⟨.value (.tmp j),#[.tmp x],dn⟩)
  (RI:o.guard=none∨∃q want tg,o.guard=some (q,want)∧wS ops.toList q=some tg∧ao tg st1.sl=some (.c (.B want)))
  (pre:SG P n ops st.nx 0 st i st1) {v:AV} (hj:ao j st1.sl=some (.c (.V (.func (.yield R.l) #[] #[])))) (hx:ao x st1.sl=some v) (U7:v.aD=[]) (aV:d<n)
  {M Mo:List (Nat×aK)} (qE:st1.mem=M) (Oj:ao 0 M=some (.fW 0 [] R.caps)) (hgo:ao 0 Mo=some (.fW 0 [] R.caps))
  {slk:List (Nat×AV)} (xx:∀t u,ao t slk=some u→ao t st1.sl=some u∧t≠d∧(u.aD=[]∨(∀g g' val,dv g R.caps R.ws→bP g u val→dv g' R.caps R.ws→bP g' u val)∧∀id∈u.aD,id<1000000*st.nx))
  (za:∀id b,ao id Mo=some b→id<1000000*st.nx∧∀j∈b.aD,j<1000000*st.nx) (fe:1≤st.nx) (hi:ops.size≤1000)
  {xid:Nat} {stB:St} {nxr:Nat} {bo:Bool} (Ii:st.nx+1≤nxr) (EY:1≤stB.nx) (JK:∀t v,ao t R.S0=some v→∀id∈v.aD,id<1000000*st.nx)
  (hA:TJ P R.n0 R.iX ⟨(R.p,v)::R.S0,M,nxr,[]⟩ xH (λF e a W=>e= .normal∧∃g,bJ (F.dr []) (kb stB) stB.kn g W a))
  (hB:TJ P R.n0 R.bd stB xH (JJ bo xid Mo)) {gd1:List (Nat×Bool)}
  (suf:SG P n ops st.nx (i+1) ⟨(d,.c (.B bo))::slk,Mo,st.nx,gd1⟩ ops.size Va) {Q:fG} (cont:gM n .normal ⟨Va.sl,Va.mem,st.nx+1,[]⟩ (R.O (oB bo xid)) Q):
  TJ P n (.region id ops false) st (R.O none) Q:=by
 intro F hF gV fK ds g W a hh hO
 obtain⟨o1,o2,o3,o4,o5,o6,o7⟩:=hO
 subst o4
 have aeh:zQ F.rd ops:=fK.region
 have atV:i<ops.size:=(jU.1 ho).1
 have bw:(gH F.rd:Fence)=gH none:=by rw[o3]
 rw[bw]
 refine wpIn_region ?_
 have apx:List.range ops.size=List.range' 0 (i-0)++(i::(List.range' (i+1) (ops.size-(i+1))++[])):=by rw[kB,List.range_eq_range',←List.range'_succ];have:ops.size-(i+1)+1=ops.size-i:=af;rw[this];have:=List.range'_append (s:=0) (m:=i-0) (n:=ops.size-i) (step:=1);simp only[jb,eZ]at this;rw[Bt]at this⊢;rw[this];congr 1;omega
 rw[apx]
 have xy:=pre.sound ((F.dr []).re W g (1000000*st.nx)) hF aeh
 have apy:(gH ((F.dr []).re W g (1000000*st.nx)).rd:Fence)=gH none:=bw
 rw[apy]at xy
 refine xy _ _ g W a (bJ.re (k:=1000000*st.nx) hh) ?_
 intro g1 W1 a1 hh1
 obtain⟨xI,hK1,hG1⟩:=bJ.un (k:=1000000*st.nx) hh hh1
 rw[wpOpsIn_cons]
 unfold wpOpIn
 rw[ho]
 have apA:Region.wanted o (yielded ops a1.tmps)=true:=by
  unfold Region.wanted;rcases RI with hg|⟨q,want,tg,hg,apB,hb⟩
  ·rw[hg]
  ·rw[hg];have:=xI.gG tg (.c (.B want)) (by simp[St.kn,hb]);simp only[Qp apB this];simp
 simp only[apA,cP]
 refine⟨λ_ _=>trivial,?_⟩
 have apC:a1.tmps.getD j undef= .func (.yield R.l) #[] #[]:=xI.gG j (.c (.V (.func (.yield R.l) #[] #[]))) (by simp[St.kn,hj])
 have hvx:bP g1 v (a1.tmps.getD x undef):=xI.gG x v (by simp[St.kn,hx])
 have aej:=hK1.same _ _ o6 ae
 have hex:(o.semAt (gH none).round a1.eval).run P W1= .ok (.round R.l R.nm (R.a0.tmps.setIfInBounds R.p (a1.tmps.getD x undef)) R.iX R.bd) W1:=by
  show(execOp a1.eval o).run P W1=_;have hy:=run_yield (P:=P) (args:= #[a1.tmps.getD x undef]) aej ae;rw[execOp,ck];have e1:a1.eval (.tmp j)= .func (.yield R.l) #[] #[]:=apC;have e3:a1.eval (.tmp x)=a1.tmps.getD x undef:=rfl;have e2:(#[Operand.tmp x]:Array Operand).map a1.eval= #[a1.tmps.getD x undef]:=by simp[e3]
  simp only[resolve,e1,e2,Deferred.ofValue,pure_bind,invoke];simpa[tH]using hy
 rw[hex]
 simp only[Oper.uponIn_round]
 refine⟨λhh=>by simp[gH,Fence.wide]at hh,?_⟩
 have iA:St.kn ⟨st1.sl,M,st1.nx,st1.gd⟩=st1.kn:=by rw[←qE]
 have aek:bJ (F.dr []) (·<1000000*st.nx+1000*i) (St.kn ⟨st1.sl,M,st1.nx,st1.gd⟩) g1 W1 a1:=by rw[iA];exact xI
 refine apm (Mo:=Mo) (bo:=bo) (xid:=xid) ok af EY hA hB aek af Oj (λt w hw id al=>kv (JK t w hw id al) af) hvx U7 ⟨o1,o2,o3,ae,o5,aej,λD hD=>hK1.same _ _ (o7 D hD) ae⟩ ?_
 intro g2 W2 nx' a' JC hC apE Vb
 obtain⟨_,Vb⟩:=Vb
 have apF:=aek.Oh o1 o2 (caps:=R.caps) (by simp[St.kn,Oj])
 have apG:=hC.Oh o1 o2 (caps:=R.caps) (by simp[St.kn,hgo])
 simp only
 rw[apu]
 have Cy:bJ (F.dr []) (·<1000000*st.nx+1000*(i+1)) (St.kn ⟨(d,.c (.B bo))::slk,Mo,st.nx,gd1⟩) g2 W2 {a1 with tmps:=a1.tmps.setIfInBounds d (.bool bo)}:=by
  have hC':bJ {F with n:=R.n0,ds:=[],rd:=some R.l} (·<1000000*st.nx+1000*(i+1)) (St.kn ⟨[],Mo,nx',[]⟩) g2 W2 a':=by
   refine hC.restrict (λkey y hy id al=>?_) (λid y hy=>?_) (λid al=>?_)
   ·cases key with
    |s t=>simp[St.kn,ao]at hy
    |m q=>
     simp only[St.kn,ct]at hy
     obtain⟨b,hb,e⟩:=hy
     subst e
     have:=(za q b hb).2 id al
     omega
   ·simp only[St.kn,ct]at hy;obtain⟨b,hb,e⟩:=hy;have:=(za id b hb).1;omega
   ·have:id<F.k0:=al;omega
  have lR:=bJ.frame (sl':=(d,.c (.B bo))::slk) (M':=Mo) (nx':=st.nx) (gd':=gd1) (n':=F.n) (ds':=[]) (rd':=F.rd) (a':={a1 with tmps:=a1.tmps.setIfInBounds d (.bool bo)}) hC' (by have:=xI.size;simpa[de.dr]using this) xI.defers (λt w hw=>by
   simp only[ao]at hw;split at hw
   ·rename_i e;cases hw;subst e;have cR:d<a1.tmps.size:=by rw[xI.size];show d<F.n;rw[hF];exact aV
    refine⟨by show _=_;simp[cR],λid al=>by cases al⟩
   ·rename_i e;obtain⟨s1,s2,s3⟩:=xx t w hw;have n5:bP g1 w (a1.tmps.getD t undef):=xI.gG t w (by simp[St.kn,s1]);have m7:(a1.tmps.setIfInBounds d (.bool bo)).getD t undef=a1.tmps.getD t undef:=by have:=nT (xs:=a1.tmps) (a:=Value.bool bo) e;simp[this]
    rw[m7];rcases s3 with s3|⟨s3,s4⟩
    ·refine⟨?_,λid al=>by rw[s3]at al;cases al⟩;have h5:=n5.il s3 apE g2.γ;exact h5
    ·exact⟨s3 g1 g2 _ apF n5 apG,λid al=>by have:=s4 id al;omega⟩) (λid b hb=>hb)
  exact lR
 have ael:=suf.sound ((F.dr []).re W2 g2 (1000000*st.nx+1000*(i+1))) hF aeh
 have apI:(gH ((F.dr []).re W2 g2 (1000000*st.nx+1000*(i+1))).rd:Fence)=gH none:=bw
 rw[apI]at ael
 refine ael _ _ g2 W2 _ (bJ.re (k:=1000000*st.nx+1000*(i+1)) Cy) ?_
 intro g3 W3 a3 hh3
 obtain⟨hA3,hK3,hG3⟩:=bJ.un (k:=1000000*st.nx+1000*(i+1)) Cy hh3
 exact cont F hF gV [] g3 W3 a3 (hA3.weaken (λid al=>by have:id<1000000*st.nx+1000*ops.size:=al;show id<1000000*(st.nx+1);omega)) (R.aed _ F [] W2 W3 hK3 Vb)
end
def OM:wc:=λF ds W=>F.k0=0∧F.rd=none∧∃mk:List Nat,ds=mk.map tI∧(∀D∈mk,W.heap[D]? =some (.deferred (some []))∧F.w0.heap.size≤D)∧mk.Nodup
def Ol:A6 OM:=λ_ _ _ _ hk ⟨h1,h2,mk,h3,h4,h5⟩=>⟨h1,h2,mk,h3,λD hD=>⟨hk.same _ _ (h4 D hD).1 ae,(h4 D hD).2⟩,h5⟩
def p7.Q(R:p7)(bo:Bool)(xid:Nat)(Mo:List (Nat×aK)):fG:=λF e a W=>(e= .normal∨e= .ret)∧(∃g nx',1≤nx'∧bJ (F.dr []) (·<1000000*nx') (St.kn ⟨[],Mo,nx',[]⟩) g W a)∧R.O (oB bo xid) F [] W
def ru(Sc:List (Nat×C)):List (Nat×AV):=Sc.map λs=>(s.1,.c s.2)
def sy(Sc:List (Nat×C)):List (Bool×List C):=Sc.map λs=>(false,[s.2])
def Om{t:Nat}{v:AV}:∀{Sc:List (Nat×C)},ao t (ru Sc)=some v→∃c,v= .c c∧ao t Sc=some c
 |[],h=>by simp[ru,ao]at h
 |s::Sc,h=>by
  simp only[ru,jL,ao]at h⊢;by_cases e:s.1=t
  ·rw[aw e]at h⊢;cases h;exact⟨s.2,ae,ae⟩
  ·rw[aq e]at h⊢;exact Om h
def aem{g:Gh}:∀{cs ds:List (Bool×List C)}{us vs:List Value},dv g cs us→dv g ds vs→dv g (cs++ds) (us++vs)
 |[],_,_,_,h,h'=>by simp only[dv]at h;subst h;exact h'
 |s::cs,ds,us,vs,h,h'=>by obtain⟨v,r,rfl,h1,h2⟩:=h;exact⟨v,r++vs,ae,h1,aem h2 h'⟩
def aen{g:Gh}{f:Nat→Value}:∀{Sc:List (Nat×C)},(∀s∈Sc,dt g s.2 (f s.1))→dv g (sy Sc) (Sc.map λs=>f s.1)
 |[],_=>rfl
 |s::Sc,h=>⟨_,_,ae,h s be,aen λx hx=>h x kZ⟩
def Vc{g:Gh}{f:Nat→Value}{ds:List (Bool×List C)}{vs:List Value}:∀{Sc:List (Nat×C)},dv g (sy Sc++ds) ((Sc.map λs=>f s.1)++vs)→(∀s∈Sc,dt g s.2 (f s.1))∧dv g ds vs
 |[],h=>⟨λs hs=>(by cases hs),h⟩
 |s::Sc,h=>by
  obtain⟨v,r,e,h1,h2⟩:=h;simp only[jL,mX,Pw]at e;obtain⟨rfl,rfl⟩:=e;obtain⟨i1,i2⟩:=Vc h2;refine⟨λx hx=>?_,i2⟩;rcases dC.1 hx with rfl|hx
  ·exact h1
  ·exact i1 x hx
def A8{α:Type}{t:Nat}{v:α}:∀{l:List (Nat×α)},ao t l=some v→(t,v)∈l
 |[],h=>by simp[ao]at h
 | (k,w)::l,h=>by
  simp only[ao]at h;split at h
  ·rename_i e;cases h;subst e;simp
  ·exact wB _ (A8 h)
section
variable{P:Program}
def apM{n0 nI:Nat}{JL:Operand}{p:Nat}{iX bd:Code}{st:St}{Q:fG}{cid f:Nat}{fn:Func}{cb:Code}{capsI:List (Bool×List C)}{wsI:List AV}{Sc:List (Nat×C)}{M Mo:List (Nat×aK)}{bo:Bool}{xid:Nat}
  (hg:st.ev JL=some (.c (.X cid))) (rK:ao cid st.mem=some (.fW f [] capsI)) (lj:wZ capsI=some wsI) (iB:P.funcs[f]? =some fn) (cy:fn.body=some cb) (hnI:fn.ntmps=nI) (s8:(fn.name != "runtime.NumGoroutine")=true) (apO:fn.results= #[]) (hlen:wsI.length+1≤nI)
  (fe:1≤st.nx) (hp:p<n0) (U5:rT iX=true) (U6:rT bd=true)
  (On:∀s∈Sc,ao s.1 st.sl=some (.c s.2)) (oi:ao p (ru Sc)=none) (hz:∀t v,ao t st.sl=some v→0∉v.aD) (hM:∀id b,ao id M=some b→ao id st.mem=some b) (F5:∀id b,ao id st.mem=some b→id≠0∧0∉b.aD)
  (za:∀id b,ao id Mo=some b→id≠0∧id<1000000*st.nx∧∀j∈b.aD,j<1000000*st.nx)
  (hI:∀R:p7,R.Ok→R.n0=n0→R.S0=ru Sc→R.caps=sy Sc++capsI→R.p=p→R.iX=iX→R.bd=bd→TJ P nI cb ⟨(0,.c (.V (.func (.yield R.l) #[] #[])))::ls 1 wsI,(0,.fW 0 [] (sy Sc++capsI))::M,st.nx,[]⟩ (R.O none) (R.Q bo xid ((0,.fW 0 [] (sy Sc++capsI))::Mo)))
  (hk:gM n0 (if bo then .normal else .exit xid) ⟨ru Sc,Mo,st.nx,[]⟩ OM Q):TJ P n0 (.rangeFunc JL ⟨[p]⟩ iX bd) st OM Q:=by
 intro F hF gV fK ds g W a hh hO
 obtain⟨ok0,ord,mk,rfl,rH,apP⟩:=hO
 obtain⟨sl,mem,nx,gd⟩:=st
 simp only at rK fe On hz hM F5 za hI hk
 have eT:a.eval JL=g.γ cid:=gI hh _ JL _ hg (gn _ JL)
 have iA:(St.kn ⟨sl,mem,nx,gd⟩) (.m cid)=some (.b (.fW f [] capsI)):=by simp[St.kn,rK]
 obtain⟨us0,wv,hγ,Vd,Fh⟩:=hh.df cid _ iA
 have Vd:us0=[]:=Vd
 subst Vd
 have zS:=Lx lj Fh
 have Ve:∀j∈fJ capsI,j<1000000*nx∧j≠0:=λj hj=>by
  have h1:j∈(aK.fW f [] capsI).aD:=by simpa[aK.aD,fJ]using hj
  exact⟨hh.aD (.m cid) _ iA j h1,λe=>(F5 cid _ rK).2 (e▸h1)⟩
 have apR:mD P f=true:=by simp[mD,iB,cy,s8]
 have apS:∀s∈Sc,dt g s.2 (a.tmps.getD s.1 undef):=λs hs=>hh.gG s.1 (.c s.2) (by simp[St.kn,On s hs])
 have Vf:∀s∈Sc,∀id∈s.2.aD,id<1000000*nx∧id≠0:=λs hs id al=>⟨hh.aD (.s s.1) (.v (.c s.2)) (by simp[St.kn,On s hs]) id al,λe=>hz s.1 _ (On s hs) (e▸al)⟩
 rw[ord]
 refine wpIn_rangeFunc (F:=gH none) (λnm _=>?_)
 obtain⟨R,hR⟩:∃R:p7,R={n0:=n0,a0:=a,S0:=ru Sc,caps:=sy Sc++capsI,ws:=(Sc.map λs=>a.tmps.getD s.1 undef)++wv,l:=W.heap.size+1,D:=W.heap.size,nm:=nm,p:=p,iX:=iX,bd:=bd,ms:=W.heap.size::mk}:=⟨_,ae⟩
 obtain⟨W1,yJ⟩:∃W1,(W.alloc (.deferred (some []))).alloc (.loop {state:= .ready,pending:=none,fn:=nm,tmps:=a.tmps,params:= #[p],assign:=iX,body:=bd,defers:=W.heap.size})=W1:=⟨_,ae⟩
 refine⟨W.heap.size+1,[tI W.heap.size],W1,{target:= .fn (.func f) wv.toArray,args:= #[.func (.yield (W.heap.size+1)) #[] #[]]},W1,f,#[.func (.yield (W.heap.size+1)) #[] #[]]++wv.toArray,W1,?_,?_,λ_ _=>trivial,Q4 apR,λhh=>by simp[gH,Fence.wide]at hh,?_⟩
 ·rw[←yJ];exact run_enterLoop_outer nm a.tmps #[p] iX bd
 ·simp only[resolve,eT,hγ,Deferred.ofValue];simp[Act.eval]
 have wM:WX F.w0.heap.size W W1:=by rw[←yJ];exact(WX.alloc _ _ _).trans (WX.alloc _ _ _)
 have hB:F.w0.heap.size≤W.heap.size:=hh.below.size
 have hD1:W1.heap[W.heap.size]? =some (.deferred (some [])):=by rw[←yJ];exact(Below.heap_alloc _ _ _ be).trans (World.alloc_heap_new W _)
 have hL1:W1.heap[W.heap.size+1]? =some (.loop (tH nm a.tmps p iX bd W.heap.size none)):=by rw[←yJ];have:=World.alloc_heap_new (w:=W.alloc (.deferred (some []))) (.loop {state:= .ready,pending:=none,fn:=nm,tmps:=a.tmps,params:= #[p],assign:=iX,body:=bd,defers:=W.heap.size});rwa[World.size_alloc]at this
 have aeq:∀D∈W.heap.size::mk,W1.heap[D]? =some (.deferred (some [])):=by
  intro D hD;rcases dC.1 hD with rfl|hD
  ·exact hD1
  ·have h1:=(rH D hD).1;rw[←yJ];exact(Below.heap_alloc _ _ _ (by have:=(jU.1 h1).1;simp;omega)).trans ((Below.heap_alloc _ _ _ (jU.1 h1).1).trans h1)
 have Oi:W.heap.size+1∉W.heap.size::mk:=by intro hc;have:=aeq _ hc;rw[hL1]at this;cases this
 have apU:dv g R.caps R.ws:=by rw[hR];exact aem (aen (f:=λt=>a.tmps.getD t undef) apS) Fh
 have JM:∀id∈fJ R.caps,id≠0∧id<1000000*nx:=by
  rw[hR];have key:∀{L:List (Nat×C)},(∀s∈L,∀id∈s.2.aD,id<1000000*nx∧id≠0)→∀id∈fJ (sy L++capsI),id≠0∧id<1000000*nx:=by
   intro L;induction L with
   |nil=>intro _ id al;exact⟨(Ve id al).2,(Ve id al).1⟩
   |cons s L ih=>
    intro hL id al
    simp only[sy,jL,mX,fJ,b6]at al
    rcases al with al|al
    ·have:id∈s.2.aD:=by simpa[cD]using al
     exact⟨(hL s be id this).2,(hL s be id this).1⟩
    ·exact ih (λx hx=>hL x kZ) id al
  exact key Vf
 have U9:=bJ.ghost (k:=1000000*nx) (hh.wx (W':=W1) wM) (nx':=nx) (gd':=[]) af ok0 hz F5 apU JM
 have LZ:ao 0 mem=none:=by
  cases h:ao 0 mem with
  |none=>rfl
  |some b=>exact absurd ae (F5 0 b h).1
 have ok:R.Ok:=by
  rw[hR];refine⟨hp,?_,Oi,U5,U6,λg' bW t v hv=>?_,oi⟩
  ·have:=hh.size;simpa[de.dr,hF]using this
  ·obtain⟨c,rfl,hc⟩:=Om hv;exact(Vc (f:=λt=>a.tmps.getD t undef) bW).1 (t,c) (A8 hc)
 have g9:wv.length=wsI.length:=z' zS
 have kE:(#[.func (.yield (W.heap.size+1)) #[] #[]]++wv.toArray:Array Value)=(.func (.yield (W.heap.size+1)) #[] #[]::wv).toArray:=be
 rw[kE]
 refine callsIn_of_wp (F:=gH none) iB cy ah ?_
 have xI:bJ ({F with n:=nI,ds:=[],rd:=none,k0:=1,γ0:=λ_=>nR R.ws}:de) (·<1000000*nx) (St.kn ⟨(0,.c (.V (.func (.yield R.l) #[] #[])))::ls 1 wsI,(0,.fW 0 [] (sy Sc++capsI))::M,nx,[]⟩) (g.new 0 (nR R.ws)) W1 {tmps:=(.func (.yield (W.heap.size+1)) #[] #[]::wv).toArray++Array.replicate (fn.ntmps-(.func (.yield (W.heap.size+1)) #[] #[]::wv).toArray.size) undef,defers:=[]}:=by
  refine bJ.frame (F:={F.dr (mk.map tI)with k0:=1,γ0:=λ_=>nR R.ws}) U9 (by simp[g9,hnI];omega) ae (λt v hv=>?_) (λid b hb=>?_)
  ·simp only[ao]at hv;split at hv
   ·rename_i e;cases hv;subst e;refine⟨?_,λid al=>by cases al⟩;show _=_;rw[hR,wy,Bd be];simp
   ·rename_i e;obtain⟨h1,u,h2,h3,h4⟩:=pK wsI wv 1 zS t v hv;have br:t-1<wv.length:=(wA.1 h2).1;have aer:∀id∈v.aD,id<1000000*nx∧id≠0:=λid al=>Ve id (Yq lj id (h4 id al))
    refine⟨?_,λid al=>(aer id al).1⟩;rw[wy,Bd cT];have m7:(.func (.yield (W.heap.size+1)) #[] #[]::wv).toArray[t]? =some u:=by rw[Ku,show t=(t-1)+1 by omega,Dv,h2]
    rw[m7];have jP:iL (λid=>id≠0) g (g.new 0 (nR R.ws)):=⟨cF.refl _,λid al=>by simp[Gh.new,al]⟩;exact bP.mono jP (λid al=>(aer id al).2) h3
  ·simp only[ao]at hb⊢;split at hb
   ·rename_i e;cases hb;subst e;rw[hR];simp
   ·rename_i e;rw[aq e];exact hM id b hb
 have hO1:R.O none ({F with n:=nI,ds:=[],rd:=none,k0:=1,γ0:=λ_=>nR R.ws}:de) [] W1:=by
  refine⟨ae,ae,ae,ae,?_,?_,?_⟩
  ·rw[hR];show F.w0.heap.size≤W.heap.size+1;omega
  ·rw[hR];exact hL1
  ·rw[hR];exact aeq
 have b7:=hI R ok (by rw[hR]) (by rw[hR]) (by rw[hR]) (by rw[hR]) (by rw[hR]) (by rw[hR]) ({F with n:=nI,ds:=[],rd:=none,k0:=1,γ0:=λ_=>nR R.ws}:de) ae (bD _) (.inl ae) [] (g.new 0 (nR R.ws)) W1 _ xI hO1
 refine wpIn_mono (F:=gH none) b7 ?_
 rintro e a' W' ⟨he,⟨g',nx',JC,Oo⟩,hO'⟩
 obtain⟨_,_,_,_,_,aes,aet⟩:=hO'
 have L0:a'.defers=[]:=Oo.defers
 have aeu:W'.heap[W.heap.size+1]? =some (.loop (tH nm a.tmps p iX bd W.heap.size (oB bo xid))):=by rw[hR]at aes;exact aes
 have apX:∀D∈W.heap.size::mk,W'.heap[D]? =some (.deferred (some [])):=by rw[hR]at aet;exact aet
 have hw4:WX F.w0.heap.size W' (W'.putObj (W.heap.size+1) (.loop {tH nm a.tmps p iX bd W.heap.size (oB bo xid)with state:= .exhausted})):=WX.putObj _ aeu ae af
 have Cy:=Oo.wx hw4
 have hgr:dv g' R.caps R.ws:=Cy.Oh (caps:=R.caps) ae ae (by rw[hR];simp[St.kn,ao])
 have lR:bJ (F.dr ((W.heap.size::mk).map tI)) (·<1000000*nx) (St.kn ⟨ru Sc,Mo,nx,[]⟩) g' (W'.putObj (W.heap.size+1) (.loop {tH nm a.tmps p iX bd W.heap.size (oB bo xid)with state:= .exhausted})) {a with defers:=[tI W.heap.size]++a.defers}:=by
  have h5:bJ ({F with n:=F.n,ds:=(W.heap.size::mk).map tI,rd:=F.rd,k0:=1,γ0:=λ_=>nR R.ws}:de) (λid=>id<1000000*nx'∨id<1000000*nx) (St.kn ⟨ru Sc,(0,.fW 0 [] (sy Sc++capsI))::Mo,nx,[]⟩) g' (W'.putObj (W.heap.size+1) (.loop {tH nm a.tmps p iX bd W.heap.size (oB bo xid)with state:= .exhausted})) {a with defers:=[tI W.heap.size]++a.defers}:=by refine bJ.frame (Cy.weaken (λid al=> .inl al)) (by have:=hh.size;simpa[de.dr]using this) (by have:=hh.defers;simp only[this];rfl) (λt v hv=>?_) (λid b hb=>hb);obtain⟨c,rfl,hc⟩:=Om hv;have Oq:=A8 hc;have h6:=(Vc (f:=λt=>a.tmps.getD t undef) (by rw[hR]at hgr;exact hgr)).1 (t,c) Oq;exact⟨h6,λid al=> .inr (Vf (t,c) Oq id al).1⟩
  have h6:=h5.restrict (K':=(·<1000000*nx)) (λkey y hy id al=>?_) (λid y hy=>?_) (λid al=>by have:id<1:=al;show id<1000000*nx;omega)
  ·have h7:=bJ.frame (sl':=ru Sc) (M':=Mo) (nx':=nx) (gd':=[]) (n':=F.n) (ds':=(W.heap.size::mk).map tI) (rd':=F.rd) (a':={a with defers:=[tI W.heap.size]++a.defers}) h6 h6.size h6.defers (λt v hv=>⟨h6.gG t v Kf,λid al=>h6.aD (.s t) (.v v) Kf id al⟩) (λid b hb=>by simp only[ao];have:id≠0:=(za id b hb).1;rw[aq (λe=>this e.symm)];exact hb);exact⟨h7.size,h7.defers,h7.gG,h7.df,h7.inj,h7.aD,h7.fF,h7.sub,h7.below,h7.le,h7.fresh,λid al=>by have:id<F.k0:=al;omega⟩
  ·cases key with
   |s t=>
    simp only[St.kn,ct]at hy
    obtain⟨w,hw,e⟩:=hy
    subst e
    obtain⟨c,rfl,hc⟩:=Om hw
    exact(Vf (t,c) (A8 hc) id al).1
   |m q=>
    simp only[St.kn,ao,ct]at hy
    obtain⟨w,hw,e⟩:=hy
    subst e
    split at hw
    ·cases hw;have:id∈fJ R.caps:=by rw[hR];simpa[Info.aD,aK.aD,fJ]using al
     exact(JM id this).2
    ·exact(za q w hw).2.2 id al
  ·simp only[St.kn,ao,ct]at hy;obtain⟨w,hw,e⟩:=hy;split at hw
   ·rename_i e2;subst e2;show 0<1000000*nx;omega
   ·exact(za id w hw).2.1
 have hOM:OM F ((W.heap.size::mk).map tI) (W'.putObj (W.heap.size+1) (.loop {tH nm a.tmps p iX bd W.heap.size (oB bo xid)with state:= .exhausted})):=by
  refine⟨ok0,ord,W.heap.size::mk,ae,λD hD=>⟨?_,?_⟩,?_⟩
  ·have aR:D≠W.heap.size+1:=λe=>Oi (e▸hD)
   rw[World.putObj_heap_other aR];exact apX D hD
  ·rcases dC.1 hD with rfl|hD
   ·exact hB
   ·exact(rH D hD).2
  ·refine Bm.2 ⟨λhc=>?_,apP⟩;have:=(jU.1 (rH _ hc).1).1;omega
 have aew:rangePost (gH none) 0 P (W.heap.size+1) (Q F) {a with defers:=[tI W.heap.size]++a.defers} (.returned (.tuple #[])) W':=by
  refine⟨oB bo xid,_,run_endLoop (P:=P) aeu (by unfold oB;cases bo<;>simp[tH]),?_⟩;have hq:=hk F hF gV _ g' _ _ lR hOM;unfold oB;cases bo with
  |true=>exact hq
  |false=>exact wpIn_exit hq
 have Nj:(results fn a'.tmps).run P W'= .ok (.tuple #[]) W':=by simp[results,apO]
 rcases he with rfl|rfl
 ·exact⟨L0,_,Nj,aew⟩
 ·exact⟨L0,_,Nj,aew⟩
end
section
variable{P:Program}{tt:TT}
def aex{n:Nat}{ops:Array Oper}{draw:Bool}{nx i:Nat}{o:Oper}{os:List Oper}{st st1:St}{ks:List Ks}{k:Ks}{Q:St→Prop}{rd:List (Key×Info)}{wr:List (Key×Option Info)}
  (hs:ops[i]? =some o→zR P n ops i rd wr (sQ (λi=>1000000*nx+1000*i) i)) (bw:∀kx∈rd,st.kn kx.1=some kx.2) (eS:st1.kn=dI st.kn wr) (gT:∀x∈dT rd,x∈k.1) (dR:∀x∈fi wr,x∈k.2) (h:RG P n ops draw nx (i+1) os st1 (ks++[k]) Q):RG P n ops draw nx i (o::os) st ks Q:=by
 intro yd
 have ho:ops[i]? =some o:=by have:=ay (λl=>l[0]?) yd;simpa[tM]using this
 have Qs:ops.toList.drop (i+1)=os:=by rw[←xW,yd];rfl
 have dh:=hs ho
 obtain⟨ds,st',hl,h1,h2,h3,h4,rI,h5,h6⟩:=h Qs
 refine⟨(rd,wr)::ds,st',by simp[hl],?_,?_,?_,h4,rI,?_,h6⟩
 ·intro j hj;cases j with
  |zero=>simpa using dh
  |succ j=>
   have:=h1 j zo
   rw[show i+(j+1)=i+1+j by omega]
   simpa using this
 ·intro j hj kx aS;cases j with
  |zero=>simp only[xO]at aS;simpa[wT]using bw kx aS
  |succ j=>
   simp only[Gw]at aS
   have:=h2 j zo kx aS
   rw[eS]at this
   simpa[wT]using this
 ·rw[h3,eS];simp[wT]
 ·intro hd;obtain⟨cp,⟨lQ,vk⟩,BK⟩:=h5 hd;refine⟨k::cp,⟨by simp[lQ],λj hj rN=>?_⟩,by rwa[np,List.singleton_append]at BK⟩;cases j with
  |zero=>exact⟨gT,dR⟩
  |succ j=>simpa using vk j zo (by simpa using rN)
def ap0{n c1 k k':Nat}{ops:Array Oper}{i:Nat}{o:Oper}(ho:ops[i]? =some o)(hg:o.guard=none){d:Nat}(hd:o.dst=some d)(aV:d<n){f:FuncId}{args:Array Operand}{dn:Array TypeId}(ck:o.op= .call ⟨.value (.func f),args,dn⟩)
  {st:St} {vs:List AV} {r:AV} {fO:List (Nat×aK)} (hv:kH st args.toList=some vs) (hm:fN vs=[]) (hf:CX P f vs [] k r fO k') (dx:k'≤c1) (dJ:∀id∈r.aD,k≤id) (vu:∀id b,ao id fO=some b→∀j∈b.aD,k≤j):
  zR P n ops i (args.toList.flatMap (dU st)) ((.s d,some (.v r))::ug k fO) (λid=>k≤id∧id<c1):=by
 intro F gk Q known σ g W a K dX aJ bw hK
 have jc:=z7 aJ st _ _ hv bw
 have cR:d<a.tmps.size:=rA
 have hc:=aiK hf (λid al=>by rw[hm]at al;cases al) (λid b h=>by simp[ao]at h) (λid al=> .inl (dJ id al)) (λid b h=> .inr λj hj=> .inl (vu id b h j hj)) aJ (λid al=>dX id ⟨al.1,kv al.2 dx⟩) jc (λid al=>by rw[hm]at al;cases al) (λid b h=>by simp[ao]at h) cR
 unfold wpOp
 simp only[ho,Region.wanted,hg,cP]
 refine .inl ?_
 unfold Oper.wp
 have hex:(execOp a.eval o).run P W= .ok (.enter f (args.map a.eval)) W:=by
  have cy:=hf.call;unfold mD at cy;rw[execOp,ck];cases iB:P.funcs[f]? with
  |none=>rw[iB]at cy;simp at cy
  |some fn=>
   rw[iB]at cy
   simp only[eX,bne_iff_ne,ne_eq]at cy
   have h2:fn.body≠none:=by intro hb;rw[hb]at cy;simp at cy
   simp[resolve,Act.eval,Deferred.ofValue,invoke,callFunc,iB,cy.1,h2]
 rw[hex]
 simp only[Oper.upon]
 have iP:(args.map a.eval)=(args.toList.map a.eval).toArray:=wo
 rw[iP]
 refine hc.mono ?_
 rintro e W' ⟨v,g',rfl,h'⟩
 simp only[hd]
 refine hK g' W' _ (h'.weaken (λid al=>?_))
 rcases al with al|al
 ·exact .inl al
 ·exact .inr ⟨al.1,kv al.2 dx⟩
def aey(P:Program)(fn:Func)(r:AV):fG:=λF e a W=>(∀b,¬F.own b)→bodyPostM (gH none) 0 P fn (Lg F.w0 F.H0 r) e a W
def ap1{n:Nat}{st:St}(aT:cM P tt=true){fn:Func}{rs:List ResultVar}{r' r:AV}(hr:ua tt st rs=some r')(hle:au r' r)(fM:fn.results=rs.toArray:=by rfl)(hm:r.aD=[]:=by rfl):gM n .ret st OM (aey P fn r):=by intro F hF gV ds g W a h hO sZ;obtain⟨_,_,mk,rfl,rH,fK⟩:=hO;have hd:a.defers=mk.map tI:=h.defers;show LeavesInM (gH none) 0 P fn a.tmps (Lg F.w0 F.H0 r) a.defers .returning W;rw[hd];refine ad5 (B:=F.w0.heap.size) mk W rH fK ?_;intro W' hx;have h2:=h.wx (W':=W') hx;obtain⟨u,hu,bW⟩:=BQ (P:=P) aT h2 fM hr;refine⟨u,hu,u,g.H,ae,?_,h2.le,λb o hb=>h2.fresh b o hb (sZ b),h2.sub,⟨h2.below.os,h2.below.tape,h2.below.output,h2.below.size,λk hk=>h2.below.block k hk (sZ k)⟩⟩;exact(hle.1 _ _ bW).il hm (cF.refl _) jd
def ap2{n nx:Nat}{f:FuncId}{fn:Func}{c:Code}{args:List AV}{r:AV}(hf:P.funcs[f]? =some fn)(hb:fn.body=some c)(hN:fn.ntmps=n)(hle:Nat.ble args.length n=true)(mE:fN args=[])(BR:r.aD=[])(s8:(fn.name != "runtime.NumGoroutine")=true)
  (h:TJ P n c ⟨ls 0 args,[],nx,[]⟩ OM (aey P fn r)):aG P f args r:=by
 refine⟨by simp[mD,hf,hb,s8],BR,?_⟩
 intro H W vs eL bW
 refine callsIn_wide.1 (callsIn_of_wp_marks (n:=0) (F:=gH none) hf hb ah ?_)
 have hlen:=z' bW
 have hle:=cY hle
 refine wpIn_mono (F:=gH none) (h {w0:=W,H0:=H,n:=n} rfl (bK _) (.inl ae) [] ⟨H,jd⟩ W _ ⟨?_,ae,?_,?_,?_,?_,?_,eL,⟨ae,ae,ae,bD _,λ_ _ _=>rfl⟩,cF.refl _,λ_ _ _ _=>rfl,λ_ h=>absurd h (zA _)⟩ ⟨ae,ae,[],ae,λD hD=>(by cases hD),List.nodup_nil⟩) (λe a W' hq=>hq (λ_ h=>h))
 ·simp[hN,de.dr];omega
 ·intro t v ht;simp only[St.kn,ct]at ht;obtain⟨x,hx,he⟩:=ht;cases he;obtain⟨_,u,hu,hr,_⟩:=pK args vs 0 bW t v hx;have jm:vs[t]? =some u:=Ds;have br:t<vs.length:=(wA.1 jm).1;have:(vs.toArray++Array.replicate (fn.ntmps-vs.toArray.size) undef).getD t undef=u:=by rw[wy,Bd Gn];simp[jm]
  rw[this];exact hr
 ·intro id b e;simp[St.kn,ao]at e
 ·intro id b9 b b' k e;simp[St.kn,ao]at e
 ·intro k x e id al;cases k with
  |m j=>simp[St.kn,ao]at e
  |s t=>
   simp only[St.kn,ct]at e
   obtain⟨y,hy,he⟩:=e
   subst he
   obtain⟨_,u,_,_,h6⟩:=pK args vs 0 bW t y hy
   have:=h6 id al
   rw[mE]at this
   cases this
 ·intro id x e;simp[St.kn,ao]at e
end
end Go.El
namespace Go.El
open Go Go.Proofs
set_option maxHeartbeats 4000000 in
def ap3(a b:List Int)(m:Int)(u v:Nat)(Ai:u+v≤100000)(la:a.length≤1000)(lb:b.length≤1000)(Ul:a≠[])(Um:b≠[])(ju:0<m)(ha:∀i,aW u (a.getD i 0))(hb:∀i,aW v (b.getD i 0))(hm:aW (u+v) m):
  m9 Tryz.prog 161 [cS .z a,cS .z b,aZ m] 44 .z (pY a b m):=by
 refine Af Tryz.func161 ae ae ae ae ak ?_
 have pa:=cZ.2 Ul
 have pb:=cZ.2 Um
 have lA:∀i,(iF a b i).length=a.length+b.length-1:=Jk a b
 refine rr ae (rb (rm .z (a.length+b.length-1) ae ae ae ae ae ae (λg=>B0 g) af ?_ ?_ (re ae ?_)))
 ·show _*32≤_;omega
 ·show _*2≤_;omega
 refine aj (rr ae ?_)
 refine aH (bA (α:=Nat) (λi=>⟨[(0,cS .z a),(1,cS .z b),(5,.c (.P 0 0)),(7,.c (.X 1006000)),(19,cI a.length),(20,cI i)],[(0,.box 44 0 (av .z m)),(1006000,.vec 44 .z (iF a b i))],5,[]⟩) (λi=>i≤a.length) (λi=>a.length-i) 0 (bK _) (wk ⟨sR ae,sR ae,sR ae,sR ae,sR ae,sR ae,ah⟩ ⟨bE ae ae,bR ae,ah⟩) ?_)
 ·intro i hi;refine rr ae (aj (ax ae (λh=>?_) (λh=>?_)))
  ·have h:i<a.length:=by have h:(i:Int)<(a.length:Int):=a9 h;omega
   refine aC (ai (aj (aH (rr ae (rr ae ?_)))));refine aH (bA (α:=Nat) (λj=>⟨[(0,cS .z a),(1,cS .z b),(5,.c (.P 0 0)),(7,.c (.X 1006000)),(8,cI i),(19,cI a.length),(20,cI i),(24,cI b.length),(25,cI j)],[(0,.box 44 0 (av .z m)),(1006000,.vec 44 .z (kq a b i j (iF a b i)))],8,[]⟩) (λj=>j≤b.length) (λj=>b.length-j) 0 (bK _) bY ?_);intro j hj;have qA:(kq a b i j (iF a b i)).length=a.length+b.length-1:=by rw[Jj,lA]
   refine rr ae (aj (ax ae (λh2=>?_) (λh2=>?_)))
   ·have h2:j<b.length:=by have h2:(j:Int)<(b.length:Int):=a9 h2;omega
    have yE:((i:Int)+(j:Int)).toNat=i+j:=af;have hz:=acN ha hb (i:=i) af (NF ha hb i af) j (i+j);have hmul:aG Tryz.prog 105 [.a (av .z (a.getD ((i:Int)).toNat 0)),.a (av .z (b.getD ((j:Int)).toNat 0))] (aZ (a.getD i 0*b.getD j 0)):=by rw[bu,bu];exact uu _ _ ((ha i).sm af) ((hb j).sm af)
    have pX:aG Tryz.prog 103 [.a (av .z ((kq a b i j (iF a b i)).getD ((i:Int)+(j:Int)).toNat 0)),aZ (a.getD i 0*b.getD j 0)] (aZ ((kq a b i j (iF a b i)).getD (i+j) 0+a.getD i 0*b.getD j 0)):=by rw[yE];exact Av _ _ (hz.sm af) (((ha i).mul (hb j)).sm af)
    refine aC (ai (aj (aH (rr ae (cK (rc ae ae hmul (hp:=aN) (rc ae ae pX (lV ((kq a b i j (iF a b i)).getD (i+j) 0+a.getD i 0*b.getD j 0) ae ae ae ae ae (by rw[qA];omega) (re ae ?_) (hp:=aN)))))))));refine a6 (ai (rt ae (a8 (j+1) h2 Pa (wk ⟨sR ae,sR ae,sR ae,sR ae,sR ae,sR ae,sR ae,sR ae,sR ae,ah⟩ ⟨bR ae,bE ae ?_,ah⟩))));rw[kq,yE]
   ·have h2:j=b.length:=by have h2:¬(j:Int)<(b.length:Int):=bC h2;omega
    subst h2;exact bh (bt (bq (bp (a6 (ai (rt ae (a8 (i+1) h oF (wk ⟨sR ae,sR ae,sR ae,sR ae,sR ae,sR ae,ah⟩ ⟨bR ae,bE ae ae,ah⟩))))))))
  ·have h:i=a.length:=by have h:¬(i:Int)<(a.length:Int):=bC h;omega
   subst h;have hZ:=NF ha hb a.length af;have hZl:=lA a.length;have CV:pY a b m=(iF a b a.length).map (·%m):=rfl;rw[CV];generalize iF a b a.length=Z at*;refine bh (bt (bq (bp (ai ?_))));refine aj (rr ae ?_);refine aH (bA (α:=Nat) (λi=>⟨[(1,cS .z b),(5,.c (.P 0 0)),(7,.c (.X 1006000)),(52,cI Z.length),(53,cI i)],[(0,.box 44 0 (av .z m)),(1006000,.vec 44 .z ((Z.map (·%m)).take i++Z.drop i))],12,[]⟩) (λi=>i≤Z.length) (λi=>Z.length-i) 0 (bK _) bY ?_);intro i hi;have Jl:((Z.map (·%m)).take i).length=i:=cT;have Un:((Z.map (·%m)).take i++Z.drop i).length=Z.length:=cT;have lW:((Z.map (·%m)).take i++Z.drop i).getD i 0=Z.getD i 0:=by rw[aU,zu af,Jl,iw,tM,kg,←aU]
   refine rr ae (aj (ax ae (λh=>?_) (λh=>?_)))
   ·have h:i<Z.length:=by have h:(i:Int)<(Z.length:Int):=a9 h;omega
    have qL:aG Tryz.prog 162 [.a (av .z (((Z.map (·%m)).take i++Z.drop i).getD ((i:Int)).toNat 0)),aZ m] (.t [(true,av .z (Z.getD i 0/m)),(true,av .z (Z.getD i 0%m)),(false,[.I .i64 0])]):=by rw[bu,lW];exact xe _ m af ((hZ i).sm af) (hm.sm af)
    refine aC (ai (aj (aH (rr ae (cK (rc ae ae qL (hp:=aN) (lV (Z.getD i 0%m) ae ae ae ae ae (by show(i:Int).toNat<_;rw[bu,Un];exact h) (re ae ?_) (hp:=aN))))))));refine a6 (ai (rt ae (a8 (i+1) h (by show Z.length-(i+1)<Z.length-i;omega) (wk ⟨sR ae,sR ae,sR ae,sR ae,sR ae,ah⟩ ⟨bR ae,bE ae ?_,ah⟩))));refine ay (aK.vec 44 .z) ?_;rw[bu,pQ _ i (by simp;exact h),np,qi _ _ af,Jl,iw,oH h,DF,getD_map (dk m)];rfl
   ·have h:i=Z.length:=by have h:¬(i:Int)<(Z.length:Int):=bC h;omega
    subst h;rw[GI,kB,lI be];exact bh (bt (bq (bp (ai (rr ae (aF (yu (id:=1006000) ar ae ae)))))))
set_option maxHeartbeats 2000000 in
def ap4(n:Nat)(hn:n<256):aG Tryz.prog 288 [cU n] (cI (cA n.testBit 8)):=by
 have RT:aG Tryz.prog 291 [cU n] (cI (cA n.testBit 8)):=by refine aX Tryz.func291 ae ae ae ae ae ak ?_;obtain⟨m,rfl⟩:∃m:Fin 256,n=m.1:=⟨⟨n,hn⟩,ae⟩;clear hn;refine rr ae (rr ae (rr ae (rr ae (rr ae (rr ae (rr ae ?_))))));refine rr ae (aF (aL ar ae (au.of_eq (ay cI ?_)))) (hp:=by simp only[Pr.an,Pr.h,num,aA,true_and,and_true];revert m;decide+kernel);revert m;decide+kernel
 refine aX Tryz.func288 ae ae ae ae ae ak ?_;refine rr ae (aj (ax ae (λh=>by cases h) (λ_=>aC (ai ?_))));exact rb (rc ae ae RT (re ae (aF (aL ar ae (au.refl _)))))
end Go.El
namespace Go.El
open Go Go.RowKit Go.Proofs
def JN(l:List (Nat×aK))(id:Nat):List (Nat×aK)→Prop
 |[]=>True
 | (t,v')::r=>((∃v,ao t l=some v∧di v v')∨∃E z,ao t l=some (.box E z [.V (.slice none 0 0)])∧v'= .box E z [.X id])∧JN l id r
def JN.get{l:List (Nat×aK)}{id:Nat}:∀{m:List (Nat×aK)},JN l id m→∀{t v'},ao t m=some v'→(∃v,ao t l=some v∧di v v')∨∃E z,ao t l=some (.box E z [.V (.slice none 0 0)])∧v'= .box E z [.X id]
 |[],_,_,_,h=>by simp[ao]at h
 | (k,x)::m,hw,t,v',h=>by
  simp only[ao]at h;split at h
  ·rename_i e;subst e;cases h;exact hw.1
  ·exact JN.get hw.2 h
def ap5(id:Nat)(E:TypeId)(T:ET){sl:List (Nat×AV)}{mem:List (Nat×aK)}{nx:Nat}{gd:List (Nat×Bool)}{sl':List (Nat×AV)}{m2:List (Nat×aK)}{nx':Nat}{gd':List (Nat×Bool)}(hs:ye sl sl')(hm:JN mem id m2)(al:Nat.ble (1000000*nx) id=true)
  (uz:eQ (1000000*nx') ((id,.vec E T [])::m2)) (qW:sY (1000000*nx') sl'=true:=by rfl) (fe:(Nat.ble 1 nx'&&Nat.ble 1 id)=true:=by rfl):Wk ⟨sl,mem,nx,gd⟩ ⟨sl',(id,.vec E T [])::m2,nx',gd'⟩:=by
 generalize dh:(⟨sl,mem,nx,gd⟩:St)=st
 obtain rfl:sl=st.sl:=Ba
 obtain rfl:mem=st.mem:=Ba
 obtain rfl:nx=st.nx:=Ba
 clear dh
 intro F gV g W a h
 simp only[eX]at fe
 obtain⟨fe,IJ⟩:=fe
 have fe:=cY fe
 have IJ:=cY IJ
 have al:=cY al
 let g':Gh:=⟨g.H,λj=>if j=id then .slice none 0 0 else g.γ j⟩
 have hle:iL (kb st) g g':=⟨cF.refl _,λj hj=>by have hj:j<1000000*st.nx:=hj;have:j≠id:=af;simp[g',this]⟩
 have lW:g'.γ id= .slice none 0 0:=by simp[g']
 have yf:∀id,id<F.k0→id<1000000*nx'∧g'.γ id=F.γ0 id:=by intro j hj;obtain⟨h1,h2⟩:=h.iz j hj;refine⟨by omega,?_⟩;rw[hle.γ j h1];exact h2
 have hS:∀t v',St.kn ⟨sl',(id,.vec E T [])::m2,nx',gd'⟩ (.s t)=some (.v v')→(∃v,st.kn (.s t)=some (.v v)∧au v v')∧∀id∈v'.aD,id<1000000*nx':=by intro t v' e;simp only[St.kn,ct]at e;obtain⟨y,hy,he⟩:=e;cases he;refine⟨?_,z9 qW t v' hy⟩;obtain⟨v,hv,hle⟩:=hs.get hy;exact⟨v,by simp[St.kn,hv],hle⟩
 have hM:∀j b',St.kn ⟨sl',(id,.vec E T [])::m2,nx',gd'⟩ (.m j)=some (.b b')→((j=id∧b'= .vec E T [])∨(∃b,st.kn (.m j)=some (.b b)∧di b b')∨∃E1 z,st.kn (.m j)=some (.b (.box E1 z [.V (.slice none 0 0)]))∧b'= .box E1 z [.X id])∧(j<1000000*nx'∧∀i∈b'.aD,i<1000000*nx'):=by
  intro t v' e;simp only[St.kn,ct]at e;obtain⟨y,hy,he⟩:=e;cases he;refine⟨?_,uz t v' hy⟩;simp only[ao]at hy;split at hy
  ·rename_i e;cases hy;exact .inl ⟨e.symm,ae⟩
  ·rcases hm.get hy with⟨v,hv,hle⟩|⟨E1,z,hv,e⟩
   ·exact .inr (.inl ⟨v,by simp[St.kn,hv],hle⟩)
   ·exact .inr (.inr ⟨E1,z,by simp[St.kn,hv],e⟩)
 refine⟨g',h.size,h.defers,?_,?_,?_,?_,?_,h.sub,h.below,h.le,h.fresh,yf⟩
 ·intro t v' e;obtain⟨v,hv,IF⟩:=(hS t v' e).1;exact IF.1 _ _ (bP.mono hle (h.aD _ _ hv) (h.gG t v hv))
 ·intro j b' e;rcases(hM j b' e).1 with⟨rfl,rfl⟩|⟨b,hb,eN⟩|⟨E1,z,hb,rfl⟩
  ·exact .inl ⟨lW,ae⟩
  ·exact eN.1 _ _ _ _ ((h.df j b hb).Ey hle (h.fF _ _ hb) (h.aD _ _ hb) (λk hk=>⟨ae,λo=>rfl⟩))
  ·obtain⟨k,vs,rest,e1,e2,e3,e4,e5,e6⟩:=(h.df j _ hb).Ey hle (h.fF _ _ hb) (h.aD _ _ hb) (λk hk=>⟨ae,λo=>rfl⟩);refine⟨k,vs,rest,e1,e2,?_,e4,e5,e6⟩;obtain⟨v,r,rfl,h1,h2⟩:=e3;refine⟨v,r,ae,?_,h2⟩;show v=g'.γ id;rw[lW];exact h1
 ·intro i j b1 b2 k e e' hk dx;have rU:∀i b1,St.kn ⟨sl',(id,.vec E T [])::m2,nx',gd'⟩ (.m i)=some (.b b1)→cQ (g'.γ i)=some k→∃c,st.kn (.m i)=some (.b c)∧cQ (g.γ i)=some k:=by
   intro i b1 e hk;rcases(hM i b1 e).1 with⟨rfl,_⟩|⟨c,hc,_⟩|⟨E1,z,hc,_⟩
   ·rw[lW]at hk;cases hk
   ·rw[hle.γ i (h.fF _ _ hc)]at hk;exact⟨c,hc,hk⟩
   ·rw[hle.γ i (h.fF _ _ hc)]at hk;exact⟨_,hc,hk⟩
  obtain⟨c,hc,gT⟩:=rU i b1 e hk;obtain⟨c',pI,dR⟩:=rU j b2 e' dx;exact h.inj i j c c' k hc pI gT dR
 ·intro k y e i hi;cases k with
  |s t=>
   cases y with
   |v v'=>exact(hS t v' e).2 i hi
   |b b'=>simp only[St.kn,ct]at e;obtain⟨_,_,he⟩:=e;cases he
  |m j=>
   cases y with
   |v v'=>simp only[St.kn,ct]at e;obtain⟨_,_,he⟩:=e;cases he
   |b b'=>exact(hM j b' e).2.2 i hi
 ·intro j y e;cases y with
  |v v'=>simp only[St.kn,ct]at e;obtain⟨_,_,he⟩:=e;cases he
  |b b'=>exact(hM j b' e).2.1
section
variable{P:Program}
def ap6{n:Nat}{ops:Array Oper}{draw:Bool}{nx i:Nat}{os:List Oper}{st:St}{ks:List Ks}{Q Q':St→Prop}(h:RG P n ops draw nx i os st ks Q)(hq:∀st',Q st'→Q' st'):RG P n ops draw nx i os st ks Q':=λhd=>by obtain⟨ds,st',h0,h1,h2,h3,h4,h5,h6,h7⟩:=h hd;exact⟨ds,st',h0,h1,h2,h3,h4,h5,h6,hq st' h7⟩
end
section
variable{n:Nat}{Q:fG}{O:wc}{sl sl':List (Nat×AV)}{mem mem':List (Nat×aK)}{nx:Nat}{gd gd':List (Nat×Bool)}{id:Nat}{ops:Array Oper}{draw:Bool}{y:Code}{p:Pr}{ks cp:List Ks}{i i' n0 cd:Nat}
def kr(hO:A6 O)(h:runs eC n nx draw ops.toList ops.toList 0 ⟨sl,mem,nx,gd⟩ .t []=([],i',⟨sl',mem',n0,gd'⟩,p,ks))(hk:TJ Tryz.prog n y ⟨sl',mem',nx+1,[]⟩ O Q)
  (hp:p:=by first|trivial| (simp only[Pr.an,Pr.h,num,aA,true_and,and_true];first|done|omega)| (simp[Pr.an,Pr.h,num,aA];done)| (simp[Pr.an,Pr.h,num,aA];omega)) (ho:(!draw||tX ops.toList ks)=true:=by kernel_rfl) (cR:Nat.ble ops.size 1000=true:=by rfl):TJ Tryz.prog n (.seq (.region id ops draw) y) ⟨sl,mem,nx,gd⟩ O Q:=
 rq (Oe MX hO (jE ar h hp (Hm (oA hk) ho cR)))
def kt(hO:A6 O)(h:runs eC n nx draw ops.toList ops.toList 0 ⟨sl,mem,nx,gd⟩ .t []=([],i',⟨sl',mem',n0,gd'⟩,p,ks))(hk:gM n .normal ⟨sl',mem',nx+1,[]⟩ O Q)
  (hp:p:=by first|trivial| (simp only[Pr.an,Pr.h,num,aA,true_and,and_true];first|done|omega)| (simp[Pr.an,Pr.h,num,aA];done)| (simp[Pr.an,Pr.h,num,aA];omega)) (ho:(!draw||tX ops.toList ks)=true:=by kernel_rfl) (cR:Nat.ble ops.size 1000=true:=by rfl):TJ Tryz.prog n (.region id ops draw) ⟨sl,mem,nx,gd⟩ O Q:=
 Oe MX hO (jE ar h hp (Hm hk ho cR))
def Dc(hO:A6 O)(h:RG Tryz.prog n ops draw nx 0 ops.toList ⟨sl,mem,nx,gd⟩ [] (λst'=>TJ Tryz.prog n y st' O Q)):TJ Tryz.prog n (.seq (.region id ops draw) y) ⟨sl,mem,nx,gd⟩ O Q:=rq (Oe MX hO (ap6 h λ_ h=>oA h))
def Vg(hO:A6 O)(h:RG Tryz.prog n ops draw nx 0 ops.toList ⟨sl,mem,nx,gd⟩ [] (λst'=>gM n .normal st' O Q)):TJ Tryz.prog n (.region id ops draw) ⟨sl,mem,nx,gd⟩ O Q:=Oe MX hO h
end
end Go.El
namespace Go.El
open Go Go.Proofs
def aez{n:Nat}{Q:fG}{st:St}{O O':wc}{α:Type}{iC:α→St}{φ:α→Prop}{μ:α→Nat}{x:α}(h:gM n .ret st O' Q):gM n .ret st O' (JD iC φ μ x O Q):=h
def Vh{g:Gh}{c:C}:∀{cs:List (Bool×List C)}{ws:List Value},dv g (cs++[(false,[c])]) ws→∃us w,ws=us++[w]∧us.length=cs.length∧dt g c w
 |[],ws,h=>by obtain⟨v,r,rfl,h1,h2⟩:=h;have h2:r=[]:=h2;subst h2;exact⟨[],v,ae,ae,h1⟩
 |s::cs,ws,h=>by obtain⟨v,r,rfl,h1,h2⟩:=h;obtain⟨us,w,rfl,e,h3⟩:=Vh h2;exact⟨v::us,w,ae,by simp[e],h3⟩
def ap7{cs:List (Bool×List C)}{id off:Nat}{ws:List Value}(g g':Gh)(val:Value)(h:dv g (cs++[(false,[.P id off])]) ws)(hv:bP g (.c (.P id off)) val)(h':dv g' (cs++[(false,[.P id off])]) ws):bP g' (.c (.P id off)) val:=by obtain⟨us,w,e1,e2,h1⟩:=Vh h;obtain⟨Q3,w',rJ,HH,zP⟩:=Vh h';rw[e1]at rJ;have e3:=(List.append_inj rJ af).2;simp only[Pw,and_true]at e3;subst e3;obtain⟨b,hb,rfl⟩:=hv;obtain⟨b2,dO,rfl⟩:=h1;rw[hb]at dO;cases dO;exact zP
def JO(R:p7)(k d:Nat)(l:List (Nat×AV)):List (Nat×AV)→Prop
 |[]=>True
 | (t,u)::r=>(ao t l=some u∧Nat.beq t d=false∧(u.aD=[]∨(∀g g' val,dv g R.caps R.ws→bP g u val→dv g' R.caps R.ws→bP g' u val)∧∀id∈u.aD,id<1000000*k))∧JO R k d l r
def JO.get{R:p7}{k d:Nat}{l:List (Nat×AV)}:∀{m:List (Nat×AV)},JO R k d l m→∀t u,ao t m=some u→ao t l=some u∧t≠d∧(u.aD=[]∨(∀g g' val,dv g R.caps R.ws→bP g u val→dv g' R.caps R.ws→bP g' u val)∧∀id∈u.aD,id<1000000*k)
 |[],_,_,_,h=>by simp[ao]at h
 | (q,x)::m,hw,t,u,h=>by
  simp only[ao]at h;split at h
  ·rename_i e;subst e;cases h;exact⟨hw.1.1,λe=>(by have:=hw.1.2.1;rw[e,PJ]at this;cases this),hw.1.2.2⟩
  ·exact JO.get hw.2 t u h
def Ot{n nx i:Nat}{ops:Array Oper}{cG:List Oper}{i' j:Nat}{st st' st2:St}{p':Pr}{cp:List Ks}(h:runs eC n nx false ops.toList (ops.toList.drop i) i st .t []=(cG,i',st',p',cp))(t:SG Tryz.prog n ops nx i' st' j st2)
  (hp:p':=by first|trivial| (simp only[Pr.an,Pr.h,num,aA,true_and,and_true];first|done|omega)| (simp[Pr.an,Pr.h,num,aA];done)| (simp[Pr.an,Pr.h,num,aA];omega)):SG Tryz.prog n ops nx i st j st2:=
 (aec ar _ i st .t [] h hp (λq o ho=>by rw[tM]at ho;rw[←Gz];exact ho)).1 ah t
def ap8{n nx i j:Nat}{ops:Array Oper}{d f:Nat}{args:Array Operand}{dn:Array TypeId}{ty:TypeId}{pos:String}{cJ:Array Edge}{st st2:St}{vs:List AV}{r:AV}(ho:ops[i]? =some ⟨some d,.call ⟨.value (.func f),args,dn⟩,ty,pos,cJ,none⟩)(hv:kH st args.toList=some vs)(hf:aG Tryz.prog f vs r)(t:SG Tryz.prog n ops nx (i+1) (st.put d r) j st2)(hm:fN vs=[]:=by rfl)(aV:Nat.blt d n=true:=by rfl):SG Tryz.prog n ops nx i st j st2:=
 .cons (Qt ho ae ae (cY aV) ae hv hm hf) t
def ap9{n nx i j:Nat}{ops:Array Oper}(q:Nat){b c:Bool}{sl:List (Nat×AV)}{mem:List (Nat×aK)}{n0:Nat}{gd:List (Nat×Bool)}{st2:St}(hb:ao q sl=some (.c (.B b)))(e:b=c)(t:SG Tryz.prog n ops nx i ⟨(q,.c (.B c))::sl,mem,n0,(q,c)::gd⟩ j st2):SG Tryz.prog n ops nx i ⟨sl,mem,n0,gd⟩ j st2:=t.eq (by
 subst e;funext k;cases k with
 |s t'=>
  by_cases e:q=t'
  ·subst e;simp[St.kn,ao,hb]
  ·simp[St.kn,ao,e]
 |m id=>rfl)
def ap'(n:Nat):(iH n).Pairwise (λx y=>cA x.testBit n<cA y.testBit n∨(cA x.testBit n=cA y.testBit n∧x<y)):=by
 have one:∀s,(v9 n s).Pairwise (λx y=>cA x.testBit n<cA y.testBit n∨(cA x.testBit n=cA y.testBit n∧x<y)):=λs=>by refine WB ?_ (List.Pairwise.filter _ (WD (n:=2^n)):(v9 n s).Pairwise (·<·));intro x y hx hy br;simp only[v9,xT,beq_iff_eq]at hx hy;omega
 have key:∀k,((List.range k).flatMap λs=>v9 n (s+1)).Pairwise (λx y=>cA x.testBit n<cA y.testBit n∨(cA x.testBit n=cA y.testBit n∧x<y)):=by
  intro k;induction k with
  |zero=>exact .nil
  |succ k ih=>
   rw[qk,zw]
   refine Bh.2 ⟨ih,?_,λx hx y hy=>?_⟩
   ·simp only[gN,Pu,kB];exact one (k+1)
   ·simp only[jK,k7,gN,Pu,kB,v9,xT,beq_iff_eq]at hx hy;obtain⟨s,h1,h2,h3⟩:=hx;left;omega
 exact key _
def aqa{n x:Nat}{good:Nat→Bool}(hx:x∈iH n)(hg:good x=true)(h:∀T∈iH n,cA T.testBit n<cA x.testBit n∨(cA T.testBit n=cA x.testBit n∧T<x)→good T=false):(iH n).find? good=some x:=by
 cases hf:(iH n).find? good with
 |none=>exact absurd hg (by simpa using KA.1 hf x hx)
 |some y=>
  obtain⟨h1,us,ws,h2,h3⟩:=List.find?_eq_some_iff_append.1 hf
  have hp:=ap' n
  rw[h2]at hx hp
  rcases b6.1 hx with e|e
  ·have:=h3 x e;rw[hg]at this;cases this
  ·rcases dC.1 e with e|e
   ·rw[e]
   ·have h4:=(jW.1 (Bh.1 hp).2.1).1 x e;have h5:=h y (by rw[h2];simp) h4;rw[h1]at h5;cases h5
def aqb{x n:Nat}(hx:x<2^n)(hn:n≤8):cA x.testBit 8=cA x.testBit n:=by
 have key:∀d,cA x.testBit (n+d)=cA x.testBit n:=λd=>by
  induction d with
  |zero=>rfl
  |succ d ih=>rw[←tO,cA,ih,Nat.testBit_lt_two_pow (kv hx (jV ak af))];simp
 have:=key (8-n);rwa[show n+(8-n)=8 by omega]at this
abbrev we:List (Nat×C):=[(3,.P 1000000 0),(4,.P 1001000 0),(5,.P 1002000 0),(7,.P 2000000 0)]
abbrev Ou:List (Bool×List C):=[(false,[.P 4002000 0])]
abbrev mC(n:Nat)(a:List Int)(l:List (List Int))(m:Int)(fd:List (List Int)):List (Nat×aK):=[(4002000,.box 3 0 [.I .i64 n]),(1000000,.box 57 0 [.S .z a]),(1001000,.box 61 0 [.S (.sl .z) l]),(1002000,.box 44 0 (av .z m)),(2000000,.box 61 0 [.X 3000000]),(3000000,.vec 57 (.sl .z) fd)]
abbrev oC:Nat×aK:=(0,.fW 0 [] (sy we++Ou))
abbrev Ov(R:p7):AV:= .c (.V (.func (.yield R.l) #[] #[]))
def aeA{R:p7}{bo:Bool}{xid n:Nat}{Mo:List (Nat×aK)}{e:Exit}{st:St}(he:e= .normal∨e= .ret)(fe:1≤st.nx)(hm:st.mem=Mo):gM n e st (R.O (oB bo xid)) (R.Q bo xid Mo):=by intro F hF gV ds g W a hh hO;have JP:ds=[]:=hO.2.2.2.1;subst JP;refine⟨he,⟨g,st.nx,fe,?_⟩,hO⟩;obtain⟨sl,mem,nx,gd⟩:=st;simp only at hm fe;subst hm;exact bJ.frame (F:=F.dr []) (n':=(F.dr []).n) (ds':=[]) (rd':=(F.dr []).rd) hh hh.size hh.defers (λt v hv=>by simp[ao]at hv) (λid b hb=>hb)
set_option maxRecDepth 100000 in
set_option maxHeartbeats 8000000 in
def aqc{R:p7}(ok:R.Ok)(pG:R.caps=sy we++Ou)(JK:R.S0=ru we){n:Nat}{a:List Int}{l:List (List Int)}{m:Int}{fd:List (List Int)}(hn:n≤8){good:Nat→Bool}{Mo:Nat→List (Nat×aK)}{nxr:Nat}(aqd:nxr=30)
  (za:∀x id b,ao id (Mo x)=some b→id≠0∧id<5000000∧∀j∈b.aD,j<5000000)
  (rnd:∀x,x∈iH n→∃stB:St,1≤stB.nx∧TJ Tryz.prog R.n0 R.iX ⟨(R.p,cU x)::R.S0,oC::mC n a l m fd,nxr,[]⟩ xH (λF e a W=>e= .normal∧∃g,bJ (F.dr []) (kb stB) stB.kn g W a)∧TJ Tryz.prog R.n0 R.bd stB xH (JJ (!good x) 1 (oC::if good x then Mo x else mC n a l m fd)))
  {cb:Code} (cy:Tryz.f287.body=some cb):
  TJ Tryz.prog 27 cb ⟨[(0,Ov R),(1,.c (.P 4002000 0))],oC::mC n a l m fd,5,[]⟩ (R.O none) (R.Q ((iH n).find? good).isNone 1 (oC::match(iH n).find? good with|none=>mC n a l m fd|some S=>Mo S)):=by
 obtain rfl:=GJ ((rfl:Tryz.f287.body=some _).symm.trans cy)
 have hO:=R.aed none
 refine kr hO ae (uL (JH (α:=Nat) (λs=>⟨[(0,Ov R),(1,.c (.P 4002000 0)),(3,cI s)],oC::mC n a l m fd,6,[]⟩) (λs=>1≤s∧s≤n/2+1∧∀T∈iH n,cA T.testBit n<s→good T=false) (λs=>n/2+1-s) 1 ⟨bD _,by omega,λT hT h=>by have:=(y8.1 hT).2.1;omega⟩ bY ?_))
 rintro s ⟨s1,s2,s3⟩
 refine rq (kr hO ae (xG ae (λh=>?_) (λh=>?_)))
 ·have h:s≤n/2:=by have h:(s:Int)≤Int.tdiv (n:Int) 2:=a9 h;have e:Int.tdiv (n:Int) 2=((n/2:Nat):Int):=rfl;omega
  have iN:2^n≤256:=dF (jV ak hn) ak;refine C' (oA (rq (uL (kr hO ae (uL (JH (α:=Nat) (λx=>⟨[(0,Ov R),(1,.c (.P 4002000 0)),(3,cI s),(12,cU (2^n:Nat)),(13,cU x)],oC::mC n a l m fd,8,[]⟩) (λx=>x≤2^n∧∀T∈iH n,cA T.testBit n=s→T<x→good T=false) (λx=>2^n-x) 0 ⟨bK _,λT _ _ h=>absurd h af⟩ (wk ⟨sR ae,sR ae,sR ae,sE ae ?_,sR ae,ah⟩ ⟨bR ae,bR ae,bR ae,bR ae,bR ae,bR ae,bR ae,ah⟩) ?_))))))
  ·have e1:min ((n:Int)).toNat (IntKind.bits .u64)=n:=by rw[bu];show min n 64=n;omega
   refine ay (λz=>AV.c (C.I .u64 z)) (show IntKind.wrap .u64 (1*2^(min ((n:Int)).toNat (IntKind.bits .u64)))=((2^n:Nat):Int)from ?_);rw[e1,ja];have e2:(2:Int)^n=((2^n:Nat):Int):=by rw[uX];rfl
   rw[e2];exact wrap_u64 _ (nU _) (by have:((2^n:Nat):Int)≤256:=PN.2 iN;omega)
  rintro x ⟨x1,x2⟩;refine kr hO ae (rq (xG ae (λh4=>?_) (λh4=>?_)))
  ·have h4:x<2^n:=by have h4:(x:Int)<((2^n:Nat):Int):=a9 h4;omega
   have aeB:=ap4 x af;have hc8:=aqb h4 hn;refine C' (oA (rq (uL (kr hO ae ?_))));by_cases dQ:cA x.testBit n=s
   ·have Bz:x∈iH n:=y8.2 ⟨h4,by omega,by omega⟩;obtain⟨stB,U8,hA,hB⟩:=rnd x Bz;have aqg:aG Tryz.prog 288 [cU x] (cI s):=by rw[←dQ,←hc8];exact aeB
    have hd:((s:Int)==(s:Int))=true:=be;refine rq (apt (i:=7) (d:=23) (j:=21) (x:=22) (v:=cU x) (M:=oC::mC n a l m fd) (Mo:=oC::if good x then Mo x else mC n a l m fd) (xid:=1) (stB:=stB) (nxr:=nxr) (bo:= !good x) (slk:=[(0,Ov R),(1,.c (.P 4002000 0)),(3,cI s),(12,cU (2^n:Nat)),(13,cU x),(20,cB true)]) (gd1:=[(20,true)]) ok ae ae ae (.inr ⟨4,true,20,ae,ae,ae⟩) (Ot ae (ap8 ae ae aqg (Ot ae (ap9 20 ae hd (Ot ae (.nil ae)))))) ae ae ae ak ae (by rw[pG];rfl) (by rw[pG];rfl) (JO.get ⟨⟨ae,ae,.inl ae⟩,⟨ae,ae,.inr ⟨?_,?_⟩⟩,⟨ae,ae,.inl ae⟩,⟨ae,ae,.inl ae⟩,⟨ae,ae,.inl ae⟩,⟨ae,ae,.inl ae⟩,ah⟩) ?_ ?_ ?_ ?_ U8 ?_ hA hB (Ot ae (.nil ae)) ?_)
    ·intro g g' val h hv h';rw[pG]at h h';exact ap7 (cs:=sy we) g g' val h hv h'
    ·intro id al;have:id=4002000:=by simpa[AV.aD,C.aD]using al
     subst this;show 4002000<1000000*10;decide
    ·intro id b hb;show id<1000000*10∧∀j∈b.aD,j<1000000*10;by_cases hg:good x=true
     ·rw[aw hg]at hb;simp only[ao]at hb;split at hb
      ·rename_i e;cases hb;subst e;exact⟨by decide,λj hj=>Lj (b:=10000000) (l:=(aK.fW 0 [] (sy we++Ou)).aD) ae j hj⟩
      ·have:=za x id b hb;exact⟨by omega,λj hj=>by have:=this.2.2 j hj;omega⟩
     ·rw[aq hg]at hb;exact Lk (b:=10000000) (l:=oC::mC n a l m fd) ae id b hb
    ·show 1≤10;decide
    ·exact cY ae
    ·rw[aqd];show 11≤30;decide
    ·rw[JK];exact z9 (b:=10000000) (l:=ru we) ae
    ·cases hg:good x with
     |false=>
      refine oA (xG ae (λe2=>by cases e2) (λ_=>C' (A7 (oA (kt hO ae (Db (x+1) ⟨h4,λT hT hc br=>?_⟩ (by show 2^n-(x+1)<2^n-x;omega) (wk ⟨sR ae,sR ae,sR ae,sR ae,sE ae ?_,ah⟩ ⟨bR ae,bR ae,bR ae,bR ae,bR ae,bR ae,bR ae,ah⟩)))))))
      ·by_cases e:T=x
       ·rw[e];exact hg
       ·exact x2 T hT hc af
      ·exact ay (λz=>AV.c (C.I .u64 z)) (show IntKind.wrap .u64 ((x:Int)+1)=((x+1:Nat):Int)from(wrap_u64 _ af af).trans af)
     |true=>
      have aqh:(iH n).find? good=some x:=aqa Bz hg λT hT h=>by
       rcases h with h|h
       ·exact s3 T hT af
       ·exact x2 T hT af h.2
      rw[aqh]
      refine oA (xG ae (λ_=>ad6 ?_) (λe2=>by cases e2))
      refine F4 (ad8 (aez (F4 (F4 (ad8 (aez (F4 ?_)))))))
      exact aeA (bo:=false) (.inr ae) (by show 1≤11;decide) ae
   ·refine Dc hO (rc ae ae aeB (rg 20 ae ae (λe1=>?_) (λe1=>re ae (xG ae (λe2=>by cases e2) (λ_=>C' (A7 (oA (kt hO ae (Db (x+1) ⟨h4,λT hT hc br=>?_⟩ (by show 2^n-(x+1)<2^n-x;omega) (wk ⟨sR ae,sR ae,sR ae,sR ae,sE ae ?_,ah⟩ ⟨bR ae,bR ae,bR ae,bR ae,bR ae,bR ae,bR ae,ah⟩))))))))))
    ·exfalso;have e1:((cA x.testBit 8:Nat):Int)=(s:Int):=eq_of_beq e1;omega
    ·by_cases e:T=x
     ·rw[e]at hc;exact absurd hc dQ
     ·exact x2 T hT hc af
    ·exact ay (λz=>AV.c (C.I .u64 z)) (show IntKind.wrap .u64 ((x:Int)+1)=((x+1:Nat):Int)from(wrap_u64 _ af af).trans af)
  ·have h4:x=2^n:=by have h4:¬(x:Int)<((2^n:Nat):Int):=bC h4;omega
   subst h4;refine JE (JF (Og (JG (A7 (oA (kt hO ae (Db (s+1) ⟨by omega,by omega,λT hT hc=>?_⟩ (by show n/2+1-(s+1)<n/2+1-s;omega) bY)))))));by_cases e:cA T.testBit n=s
   ·exact x2 T hT e (y8.1 hT).1
   ·exact s3 T hT af
 ·have h:¬s≤n/2:=by have h:¬(s:Int)≤Int.tdiv (n:Int) 2:=bC h;have e:Int.tdiv (n:Int) 2=((n/2:Nat):Int):=rfl;omega
  have dY:∀T∈iH n,good T=false:=λT hT=>s3 T hT (by have:=(y8.1 hT).2.2;omega)
  have aqi:(iH n).find? good=none:=KA.2 λT hT=>by rw[dY T hT];decide
  rw[aqi];exact JE (JF (Og (JG (aeA (bo:=true) (.inl ae) (by show 1≤7;decide) ae))))
end Go.El
