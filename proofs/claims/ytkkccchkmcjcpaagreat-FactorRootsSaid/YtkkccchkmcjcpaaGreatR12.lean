/- Contracts: polynomials in one variable over the rationals: division. Own work; no condition. -/
import Derived.RangeFuncOwn
import Derived.RangeFuncLeaves
import Derived.Scope
import Derived.Test.YtkkccchkmcjcpaaGreatR11
import Derived.Test.YtkkccchkmcjcpaaGreatR9
import Derived.Test.YtkkccchkmcjcpaaGreatR3
import Derived.Test.YtkkccchkmcjcpaaGreatR4
import Derived.Test.YtkkccchkmcjcpaaGreatR5
import Derived.Test.YtkkccchkmcjcpaaGreatR8
set_option linter.defProp false
set_option linter.unusedVariables false
set_option linter.unusedSimpArgs false
set_option linter.unnecessarySimpa false
namespace Go.El
open Go Go.Proofs
def gE(inv:Rat)(a b:List Rat)(n m:Nat):Nat→List Rat×List Rat
 |0=>(List.replicate m 0,a)
 |j+1=>((gE inv a b n m j).1.set (m-1-j) ((gE inv a b n m j).2.getD (m-1-j+n) 0*inv),oh (gE inv a b n m j).2 (-((gE inv a b n m j).2.getD (m-1-j+n) 0*inv)) b (m-1-j))
def I4(inv a b n m):∀j,(gE inv a b n m j).1.length=m∧(gE inv a b n m j).2.length=a.length
 |0=>⟨jv,ae⟩
 |j+1=>by obtain⟨h1,h2⟩:=I4 inv a b n m j;exact⟨by rw[gE,gK,h1],by rw[gE,oh,oQ,h2]⟩
set_option maxRecDepth 100000 in
set_option maxHeartbeats 8000000 in
def ada{s:Nat}(h1:1≤s)(hs:s≤100000000)(a b:List Rat)(n m:Nat)(hn:b.length=n+1)(hm:a.length=n+m)(jq:0<m)(la:a.length≤1000)(tE:b.getD n 0≠0)(hb:∀i,QS s (b.getD i 0))(hS:∀j,j≤m→∀i,QS s ((gE (b.getD n 0)⁻¹ a b n m j).2.getD i 0)):
  aG Tryz.prog 251 [cS .q a,cS .q b] (.t [(false,[.S .q (eh (gE (b.getD n 0)⁻¹ a b n m m).1)]),(false,[.S .q (eh ((gE (b.getD n 0)⁻¹ a b n m m).2.take n))]),(false,[.I .i64 0])]):=by
 refine aX Tryz.func251 ae ae ae ae ae ak ?_
 refine rr ae (aj (rr ae (ax ae (λh=>?_) (λh=>aC (ai ?_)))))
 ·have h:(b.length:Int)=0:=eq_of_beq h;exact absurd h af
 refine rb (rm ZZ a.length ae ae ae ae ae ae KV ae ?_ ?_ (re ae ?_))
 ·show a.length*64≤_;omega
 ·show a.length*4≤_;omega
 refine dv (st':=⟨[(0,.c (.S ZZ (a.map qz))),(1,cS .q b),(7,.c (.X 2002000))],[(2002000,.vec 46 ZZ (List.replicate a.length (0,0)))],3,[]⟩) (wk ⟨⟨_,ae,ac4 a⟩,sR ae,sR ae,ah⟩ ⟨bR ae,ah⟩) ?_
 refine rb (G9 ae ae ae ae ae (by rw[jv,dJ];omega) (λe=>by have:=az List.length e;rw[jv,mc]at this;omega) (re ae ?_))
 have em:List.map qz a++List.drop (List.map qz a).length (List.replicate a.length ((0,0):Int×Int))=a.map qz:=by rw[dJ,V5,iG,wa,kp]
 refine dv (st':=⟨[(0,.c (.S ZZ (a.map qz))),(1,cS .q b),(7,.c (.X 2002000))],[(2002000,.vec 46 .q a)],4,[]⟩) (wk ⟨sR ae,sR ae,sR ae,ah⟩ ⟨⟨_,ae,by rw[em];exact IZ 46 a⟩,ah⟩) ?_
 refine rr ae (aj (rr ae (ax ae (λh=>?_) (λh=>aC (ai ?_)))))
 ·have h:((a.map qz).length:Int)≤(b.length:Int)-1:=bc h;rw[dJ]at h;exact absurd h af
 have e1:((b.length:Int)-1).toNat=n:=af
 have hi:aG Tryz.prog 252 [aQ (b.getD ((b.length:Int)-1).toNat 0)] (.t [(true,av .q (b.getD n 0)⁻¹),(false,[.I .i64 0])]):=by rw[e1];exact Tf _ (λe=>tE (CH e)) ((hb _).n.sm af) ((hb _).d.sm af)
 have CJ:QS s (b.getD n 0)⁻¹ :=(hb n).inv tE
 generalize (b.getD n 0)⁻¹ =inv at*
 have ez:((a.map qz).length:Int)-((b.length:Int)-1)=(m:Int):=by rw[dJ];omega
 have hz:mY Tryz.prog 245 [cI (((a.map qz).length:Int)-((b.length:Int)-1))] 46 .q (List.replicate m 0):=by rw[ez];exact Nv m af
 refine rb (rc ae ae hi (re ae (rb (wK ae ae hz (re ae ?_)))) (hp:=aR))
 refine aj (rr ae ?_)
 rw[jv]
 have hlen:=I4 inv a b n m
 have EI:dy (List.map ZV.sD [ZV.b,ZV.s,ZV.b,ZV.s]) (av .q inv) 0=av .q inv:=rfl
 refine aK (bA (α:=Nat) (λj=>⟨[(1,cS .q b),(7,.c (.X 2002000)),(8,cI n),(9,.c (.P 6008000 0)),(11,.c (.X 7004000)),(12,cI ((m:Int)-1-j))],[(7004000,.vec 46 .q (gE inv a b n m j).1),(6008000,.box 46 0 (av .q inv)),(2002000,.vec 46 .q (gE inv a b n m j).2)],9,[]⟩) (λj=>j≤m) (λj=>m-j) 0 (bK _) (wk ⟨sR ae,sR ae,sE ae ?_,sR ae,sR ae,sE ae ?_,ah⟩ ⟨bR ae,bE ae ae,bR ae,ah⟩) ?_)
 ·exact az (λz=>AV.c (C.I .i64 z)) (show(b.length:Int)-1=(n:Int)by omega)
 ·exact az (λz=>AV.c (C.I .i64 z)) (show(m:Int)-1=(m:Int)-1-((0:Nat):Int)by omega)
 intro j hj
 obtain⟨hq,hr⟩:=hlen j
 have EV:=hS j hj
 have dc:gE inv a b n m (j+1)=((gE inv a b n m j).1.set (m-1-j) ((gE inv a b n m j).2.getD (m-1-j+n) 0*inv),oh (gE inv a b n m j).2 (-((gE inv a b n m j).2.getD (m-1-j+n) 0*inv)) b (m-1-j)):=rfl
 refine aj (rr ae (ax ae (λh2=>?_) (λh2=>?_)))
 ·have h2:j<m:=by have h2:(m:Int)-1-j≥0:=bc h2;omega
  generalize gE inv a b n m j=S at*;obtain⟨q,r⟩:=S;simp only at hq hr EV dc;have f1:((m:Int)-1-j).toNat=m-1-j:=af;have f2:((m:Int)-1-j+n).toNat=m-1-j+n:=af;have hmul:=Tg (r.getD ((m:Int)-1-j+n).toNat 0) inv (EV _) CJ af;have ht:QS (2*s) (r.getD (m-1-j+n) 0*inv):=(EV _).mul CJ;generalize aoa:r.getD (m-1-j+n) 0*inv=t at*;have hmul:aG Tryz.prog 246 [aQ (r.getD ((m:Int)-1-j+n).toNat 0),aQ inv] (aQ t):=by
   have e:r.getD ((m:Int)-1-j+n).toNat 0*inv=t:=by rw[f2];exact aoa
   rwa[e]at hmul
  have Ui:(q.set ((m:Int)-1-j).toNat t).getD ((m:Int)-1-j).toNat 0=t:=by rw[I2 _ _ af,aw ae]
  have vz:aG Tryz.prog 77 [aQ ((q.set ((m:Int)-1-j).toNat t).getD ((m:Int)-1-j).toNat 0)] (aQ (-t)):=by rw[Ui];exact abf t (ht.n.sm af)
  have CI:=Ug (s:=2*s) af r (-t) b (m-1-j) af af (λi=>(EV i).le af) ht.neg (λi=>(hb i).le af);have aob:mZ Tryz.prog 253 [.c (.X 0),aQ (-t),cS .q b,cI ((m:Int)-1-j)] 46 .q r (.t []) (oh r (-t) b (m-1-j)):=by rw[show(m:Int)-1-j=((m-1-j:Nat):Int)by omega];exact CI
  refine aC (ai (aj (aK (rb (rc ae ae hmul (lO (T:= .q) t ae ae ae ae ae ?_ (re ae (cG (rc ae ae vz (nX 2002000 ae aob ae ae (re ae (a7 (ai (rt ae (hp:=aR) (a8 (j+1) h2 (by show m-(j+1)<m-j;omega) (wk ⟨sR ae,sR ae,sR ae,sR ae,sR ae,sE ae ?_,ah⟩ ⟨bE ae ?_,bR ae,bE ae ?_,ah⟩)))))) (hp:=?_)))) (hp:=?_)) (hp:=?_)))))))
  ·show((m:Int)-1-j).toNat<q.length;omega
  ·exact az (λz=>AV.c (C.I .i64 z)) (show(m:Int)-1-j-1=(m:Int)-1-((j+1:Nat):Int)by omega)
  ·rw[dc,f1]
  ·rw[dc]
  ·simp only[Pr.an,Pr.h,num,aA,true_and,and_true];first|done|omega
  ·simp only[Pr.an,Pr.h,num,aA,true_and,and_true];first|done|omega
  ·show 0≤(m:Int)-1-j∧(m:Int)-1-j<(q.length:Int);omega
 ·have h2:j=m:=by have h2:¬(m:Int)-1-j≥0:=bC h2;omega
  subst h2;refine bp (bu (br (bq (ai (fS 7004000 ae ae ae (fS 2002000 ae ae ae ?_))))));have Ei:=I0 (gE inv a b n j j).1 af;have vA:=I0 (List.take n (gE inv a b n j j).2) y7;exact rb (rc ae ae Ei (rc ae ae vA (re ae (aF (aL ar ae (au.refl _)))) (hp:=aR)))
def Uj(T:ET)(y:List (Bool×List C)):au (.t ((false,[.V (.slice none 0 0)])::y)) (.t ((false,[.S T []])::y)):=by
 refine⟨λg v h=>?_,λid h=>?_⟩
 ·obtain⟨vs,e,h⟩:=h;obtain⟨v0,r,rfl,h1,h2⟩:=h;exact⟨_,e,_,_,ae,(au.nil T).1 g v0 h1,h2⟩
 ·simpa[AV.aD,fE,cA,C.aD]using h
set_option maxRecDepth 100000 in
set_option maxHeartbeats 4000000 in
def adb(a b:List Rat)(kK:a.length<b.length)(lb:b.length≤1000):
  aG Tryz.prog 251 [cS .q a,cS .q b] (.t [(false,[.S .q []]),(false,[.S .q a]),(false,[.I .i64 0])]):=by
 refine aX Tryz.func251 ae ae ae ae ae ak ?_
 refine rr ae (aj (rr ae (ax ae (λh=>?_) (λh=>aC (ai ?_)))))
 ·have h:(b.length:Int)=0:=eq_of_beq h;exact absurd h af
 refine rb (rm ZZ a.length ae ae ae ae ae ae KV ae ?_ ?_ (re ae ?_))
 ·show a.length*64≤_;omega
 ·show a.length*4≤_;omega
 refine dv (st':=⟨[(0,.c (.S ZZ (a.map qz))),(1,cS .q b),(7,.c (.X 2002000))],[(2002000,.vec 46 ZZ (List.replicate a.length (0,0)))],3,[]⟩) (wk ⟨⟨_,ae,ac4 a⟩,sR ae,sR ae,ah⟩ ⟨bR ae,ah⟩) ?_
 refine wO ⟨[(0,.c (.S ZZ (a.map qz))),(1,cS .q b),(7,.c (.X 2002000))],[(2002000,.vec 46 .q a)],4,[]⟩ ?_ (λic=>?_)
 ·refine rr ae (aj (rr ae (ax ae (λh=>?_) (λh=>?_))))
  ·exact fS 2002000 ae ae ae (rr ae (aF (bW (aL ar ae (Uj _ _)))))
  ·have h:¬((a.map qz).length:Int)≤(b.length:Int)-1:=bC h;rw[dJ]at h;exact absurd kK af
 ·by_cases h0:a=[]
  ·subst h0;exact cG (an' ae ae ae ae ae (re ae (my ic (wk ⟨sR ae,sR ae,sR ae,ah⟩ ⟨⟨_,ae,IZ 46 []⟩,ah⟩))))
  ·have hlp:=cX.2 h0;have em:List.map qz a++List.drop (List.map qz a).length (List.replicate a.length ((0,0):Int×Int))=a.map qz:=by rw[dJ,V5,iG,wa,kp]
   refine cG (G9 ae ae ae ae ae (by rw[jv,dJ];omega) (λe=>by have:=az List.length e;rw[jv,mc]at this;omega) (re ae (my ic (wk ⟨sR ae,sR ae,sR ae,ah⟩ ⟨⟨_,ae,by rw[em];exact IZ 46 a⟩,ah⟩))))
def aoc(a b:List Rat)(kK:a.length<b.length)(lb:b.length≤1000):aG Tryz.prog 198 [cS .q a,cS .q b] (cS .q []):=by refine aX Tryz.func198 ae ae ae ae ae ak ?_;exact rr ae (rb (rc ae ae (adb a b kK lb) (re ae (rr ae (aF (aL ar ae (au.refl _)))))))
def aod{s:Nat}(h1:1≤s)(hs:s≤100000000)(a b:List Rat)(n m:Nat)(hn:b.length=n+1)(hm:a.length=n+m)(jq:0<m)(la:a.length≤1000)(tE:b.getD n 0≠0)(hb:∀i,QS s (b.getD i 0))(hS:∀j,j≤m→∀i,QS s ((gE (b.getD n 0)⁻¹ a b n m j).2.getD i 0)):
  aG Tryz.prog 198 [cS .q a,cS .q b] (cS .q (eh (gE (b.getD n 0)⁻¹ a b n m m).1)):=by
 refine aX Tryz.func198 ae ae ae ae ae ak ?_
 exact rr ae (rb (rc ae ae (ada h1 hs a b n m hn hm jq la tE hb hS) (re ae (rr ae (aF (aL ar ae (au.refl _)))))))
def pK(r:List Int)(c:Int)(b:List Int)(k t:Nat):List Int:=(List.range r.length).map λi=>if k≤i∧i<k+t then r.getD i 0-c*b.getD (i-k) 0 else r.getD i 0
def vQ(r c b k t):(pK r c b k t).length=r.length:=by simp[pK]
def CK{r:List Int}{c:Int}{b:List Int}{k t i:Nat}(hi:i<r.length):(pK r c b k t).getD i 0=if k≤i∧i<k+t then r.getD i 0-c*b.getD (i-k) 0 else r.getD i 0:=by unfold pK;rw[aY,j3,ot hi];rfl
def aoe(r c b k):pK r c b k 0=r:=xk (vQ ..) λi hi=>by rw[vQ]at hi;rw[CK hi,aq af]
def aof{r:List Int}{c:Int}{b:List Int}{k t:Nat}(h:k+t<r.length):(pK r c b k t).set (k+t) (r.getD (k+t) 0-c*b.getD t 0)=pK r c b k (t+1):=xk (by rw[gK,vQ,vQ]) λi hi=>by
 rw[gK,vQ]at hi;rw[mq _ _ _ _ (by rw[vQ];exact h),CK hi,CK hi];by_cases e:k+t=i
 ·subst e;rw[aw be,aw af,FX]
 ·by_cases e2:k≤i∧i<k+t
  ·rw[aq af,aw e2,aw af]
  ·rw[aq af,aq e2,aq af]
def aog{r:List Int}{c:Int}{b:List Int}{x v:Nat}(hr:∀i,aU x (r.getD i 0))(hc:aU x c)(hb:∀i,aU v (b.getD i 0))(k t i:Nat):aU (x+v+1) ((pK r c b k t).getD i 0):=by
 by_cases hi:i<r.length
 ·rw[CK hi];split
  ·exact(((hr i).le af).sub (hc.mul (hb _))).le af
  ·exact(hr i).le af
 ·rw[dz _ (by rw[vQ];omega)];exact aU.zero _
def gG(a b:List Int)(n m:Nat):Nat→List Int×List Int
 |0=>(List.replicate m 0,a)
 |k+1=>((gG a b n m k).1.set (m-1-k) ((gG a b n m k).2.getD (m-1-k+n) 0),pK (gG a b n m k).2 ((gG a b n m k).2.getD (m-1-k+n) 0) b (m-1-k) b.length)
def Ny(a b n m):∀k,(gG a b n m k).1.length=m∧(gG a b n m k).2.length=a.length
 |0=>⟨jv,ae⟩
 |k+1=>by obtain⟨h1,h2⟩:=Ny a b n m k;exact⟨by rw[gG,gK,h1],by rw[gG,vQ,h2]⟩
def Uk{a b:List Int}{u v:Nat}(ha:∀i,aU u (a.getD i 0))(hb:∀i,aU v (b.getD i 0))(n m:Nat):∀k i,aU (u+k*(v+1)) ((gG a b n m k).2.getD i 0)
 |0,i=>(ha i).le af
 |k+1,i=>by rw[gG];exact(aog (Uk ha hb n m k) (Uk ha hb n m k _) hb _ _ i).le (by rw[fP,iZ];omega)
set_option maxRecDepth 100000 in
set_option maxHeartbeats 8000000 in
def ade(a b:List Int)(n m u v:Nat)(hn:b.length=n+1)(hm:a.length=n+m)(jq:0<m)(la:a.length≤100)(hu:u≤100000)(hv:v≤100000)(ha:∀i,aU u (a.getD i 0))(hb:∀i,aU v (b.getD i 0))(q:List Int)(d:Bool)(hq:d=true→q=(gG a b n m m).1∧∀i,i<n→(gG a b n m m).2.getD i 0=0)(hd:d=false→q=[]∧∃i,i<n∧(gG a b n m m).2.getD i 0≠0):
  aG Tryz.prog 282 [cS .z a,cS .z b] (.t [(false,[.S .z q]),(false,[.B d])]):=by
 refine aX Tryz.func282 ae ae ae ae ae ak ?_
 refine rr ae (rr ae (aj (rr ae (ax ae (λh=>?_) (λh=>aC (ai ?_))))))
 ·have h:(a.length:Int)≤(b.length:Int)-1:=bc h;exact absurd h af
 refine rb (Qq ae ae ae ae ae ae ae ae ?_ ?_ (re ae ?_))
 ·show(a.length+a.length/4+192)*32≤_;omega
 ·show a.length*2≤_;omega
 have ez:(a.length:Int)-((b.length:Int)-1)=(m:Int):=af
 refine rb (rm .z m ae ae ae ae ae ae (λg=>BG g) ez ?_ ?_ (re ae ?_))
 ·show m*32≤_;omega
 ·show m*2≤_;omega
 refine aj (rr ae ?_)
 rw[jv]
 refine aK (bA (α:=Nat) (λk=>⟨[(1,cS .z b),(6,cI n),(7,.c (.X 3001000)),(8,.c (.X 4004000)),(9,cI ((m:Int)-1-k))],[(4004000,.vec 44 .z (gG a b n m k).1),(3001000,.vec 44 .z (gG a b n m k).2)],6,[]⟩) (λk=>k≤m) (λk=>m-k) 0 (bK _) (wk ⟨sR ae,sE ae ?_,sR ae,sR ae,sE ae ?_,ah⟩ ⟨bR ae,bR ae,ah⟩) ?_)
 ·exact az (λz=>AV.c (C.I .i64 z)) (show(b.length:Int)-1=(n:Int)by omega)
 ·exact az (λz=>AV.c (C.I .i64 z)) (show(m:Int)-1=(m:Int)-1-((0:Nat):Int)by omega)
 intro k hk
 obtain⟨lq,lr⟩:=Ny a b n m k
 refine aj (rr ae (ax ae (λh2=>?_) (λh2=>?_)))
 ·have h2:k<m:=by have h2:(m:Int)-1-k≥0:=bc h2;omega
  have hB:=Uk ha hb n m k;have dc:gG a b n m (k+1)=((gG a b n m k).1.set (m-1-k) ((gG a b n m k).2.getD (m-1-k+n) 0),pK (gG a b n m k).2 ((gG a b n m k).2.getD (m-1-k+n) 0) b (m-1-k) b.length):=rfl;have hkv:k*(v+1)≤100*(v+1):=dY _ af;generalize gG a b n m k=S at*;obtain⟨q0,r⟩:=S;simp only at lq lr hB dc;have f1:((m:Int)-1-k).toNat=m-1-k:=af;have f2:((m:Int)-1-k+n).toNat=m-1-k+n:=af;generalize hc:r.getD (m-1-k+n) 0=c at*;have Ac:aU (u+k*(v+1)) c:=by rw[←hc];exact hB _
  refine aC (ai (aj (aK (rb (lO (T:= .z) c ae ae ae ae ?_ ?_ (re ae (rr ae ?_)) (hp:=?_))))))
  ·show some (av .z (r.getD ((m:Int)-1-k+n).toNat 0))=_;rw[f2,hc]
  ·show((m:Int)-1-k).toNat<q0.length;omega
  ·refine aK (bA (α:=Nat) (λt=>⟨[(1,cS .z b),(6,cI n),(7,.c (.X 3001000)),(8,.c (.X 4004000)),(9,cI ((m:Int)-1-k)),(44,cI b.length),(45,cI t)],[(4004000,.vec 44 .z (q0.set (m-1-k) c)),(3001000,.vec 44 .z (pK r c b (m-1-k) t))],9,[]⟩) (λt=>t≤b.length) (λt=>b.length-t) 0 (bK _) (wk ⟨sR ae,sR ae,sR ae,sR ae,sR ae,sR ae,sR ae,ah⟩ ⟨bE ae ?_,bE ae ?_,ah⟩) ?_)
   ·rw[f1]
   ·rw[aoe]
   intro t ht;refine rr ae (aj (ax ae (λh3=>?_) (λh3=>?_)))
   ·have h3:t<b.length:=by have h3:(t:Int)<(b.length:Int):=bc h3;omega
    have f3:((m:Int)-1-k+t).toNat=m-1-k+t:=af;have xf:=vQ r c b (m-1-k) t;have hg:(pK r c b (m-1-k) t).getD ((m:Int)-1-k+t).toNat 0=r.getD (m-1-k+t) 0:=by rw[f3,CK af,aq af]
    have Ui:(q0.set (m-1-k) c).getD ((m:Int)-1-k).toNat 0=c:=by rw[f1,mq _ _ _ _ af,aw ae]
    have hmul:aG Tryz.prog 105 [aZ ((q0.set (m-1-k) c).getD ((m:Int)-1-k).toNat 0),aZ (b.getD (t:Int).toNat 0)] (aZ (c*b.getD t 0)):=by rw[Ui,bw];exact tY _ _ (Ac.sm af) ((hb t).sm af)
    have eI:aG Tryz.prog 163 [aZ ((pK r c b (m-1-k) t).getD ((m:Int)-1-k+t).toNat 0),aZ (c*b.getD t 0)] (aZ (r.getD (m-1-k+t) 0-c*b.getD t 0)):=by rw[hg];exact Rg _ _ ((hB _).sm af) ((Ac.mul (hb t)).sm af)
    refine aC (ai (aj (aK (rr ae (cG (rc ae ae hmul (rc ae ae eI (lO (T:= .z) (r.getD (m-1-k+t) 0-c*b.getD t 0) ae ae ae ae ae ?_ (re ae ?_))) (hp:=?_)))))))
    ·show((m:Int)-1-k+t).toNat<(pK r c b (m-1-k) t).length;omega
    ·refine a7 (ai (rt ae (a8 (t+1) h3 (by show b.length-(t+1)<b.length-t;omega) (wk ⟨sR ae,sR ae,sR ae,sR ae,sR ae,sR ae,sR ae,ah⟩ ⟨bR ae,bE ae ?_,ah⟩))));refine az (aJ.vec 44 .z) ?_;rw[f3,aof af]
    ·simp only[Pr.an,Pr.h,num,aA,true_and,and_true];have e1:(q0.set (m-1-k) c).length=m:=by rw[gK];exact lq
     omega
   ·have h3:t=b.length:=by have h3:¬(t:Int)<(b.length:Int):=bC h3;omega
    subst h3;refine bp (bu (br (bq (a7 (ai (rt ae (a8 (k+1) h2 (by show m-(k+1)<m-k;omega) (wk ⟨sR ae,sR ae,sR ae,sR ae,sE ae ?_,ah⟩ ⟨bE ae ?_,bE ae ?_,ah⟩))))))))
    ·exact az (λz=>AV.c (C.I .i64 z)) (show(m:Int)-1-k-1=(m:Int)-1-((k+1:Nat):Int)by omega)
    ·rw[dc]
    ·rw[dc]
  ·simp only[Pr.an,Pr.h,num,aA,true_and,and_true];omega
 ·have h2:k=m:=by have h2:¬(m:Int)-1-k≥0:=bC h2;omega
  subst h2;generalize gG a b n k k=S at*;obtain⟨q0,r⟩:=S;simp only at lq lr hq hd;refine bp (bu (br (bq (ai (fS 4004000 ae ae ae (fS 3001000 ae ae ae ?_))))));have e1:((n:Int)).toNat=n:=bw n;refine aj (rr ae ?_);refine aK (bA (α:=Nat) (λj=>⟨[(8,cS .z q0),(72,cS .z (r.take n)),(73,cI n),(74,cI j)],[],7,[]⟩) (λj=>j≤n∧∀i,i<j→r.getD i 0=0) (λj=>n-j) 0 ⟨bK _,λi h=>absurd h af⟩ (wk ⟨sR ae,sE ae ?_,sE ae ?_,sR ae,ah⟩ ah) ?_)
  ·show AV.c (.S .z (List.take _ r))=_;rw[e1]
  ·exact az (λz=>AV.c (C.I .i64 z)) (show((r.take (n:Int).toNat).length:Int)=(n:Int)by rw[e1,fD];omega)
  rintro j ⟨hj,hz⟩;refine rr ae (aj (ax ae (λh3=>?_) (λh3=>?_)))
  ·have h3:j<n:=by have h3:(j:Int)<(n:Int):=bc h3;omega
   have eg:(r.take n).getD ((j:Int)).toNat 0=r.getD j 0:=by rw[bw,Et,aw h3]
   refine aC (ai (aj (aK (rr ae (rb (rc ae ae (z9 ((r.take n).getD ((j:Int)).toNat 0)) (re ae ?_)))))));rw[eg];refine ax ae (λh4=>?_) (λh4=>aC ?_)
   ·have h4:r.getD j 0≠0:=λe=>by rw[e]at h4;cases h4
    have Kc:d=false:=by
     cases d with
     |true=>exact absurd ((hq ae).2 j h3) h4
     |false=>rfl
    obtain⟨nA,_⟩:=hd Kc;subst nA Kc;exact rr ae (aF (fC (bW (ix (fC (bW (aL ar ae (Uj .z _))))))))
   ·have h4:r.getD j 0=0:=uu.1 (qC h4);refine a7 (ai (rt ae (a8 (j+1) ⟨h3,λi hi=>?_⟩ (by show n-(j+1)<n-j;omega) ck)));by_cases e:i=j
    ·rw[e];exact h4
    ·exact hz i af
  ·have h3:j=n:=by have h3:¬(j:Int)<(n:Int):=bC h3;omega
   subst h3;have hdt:d=true:=by
    cases d with
    |true=>rfl
    |false=>
     obtain⟨_,i,i1,i2⟩:=hd ae
     exact absurd (hz i i1) i2
   obtain⟨nA,_⟩:=hq hdt;subst hdt nA;exact bp (bu (br (bq (ai (rr ae (aF (aL ar ae (au.refl _))))))))
def aoh{r b:List Int}(c:Int){k:Nat}(h:k+b.length≤r.length):Rx.zx (pK r c b k b.length)=Rx.zx r-Rx.K (c:Rat)*(Rx.X k*Rx.zx b):=Rx.ext λi=>by
 rw[Rx.yn,Rx.iA,Rx.pt,Rx.l7,Rx.l7];by_cases hi:i<r.length
 ·rw[CK hi];by_cases e:k≤i∧i<k+b.length
  ·rw[aw e,aw e.1,Rx.l7,J1,iW]
  ·rw[aq e];split
   ·rw[Rx.l7,dz b af,JZ];grind
   ·grind
 ·rw[dz _ (show(pK r c b k b.length).length≤i by rw[vQ];omega),dz r af];split
  ·rw[Rx.l7,dz b af,JZ];grind
  ·grind
def aoi{l:List Int}{k:Nat}(t:Int)(h:k<l.length)(h0:l.getD k 0=0):Rx.zx (l.set k t)=Rx.zx l+Rx.K (t:Rat)*Rx.X k:=Rx.ext λi=>by
 rw[Rx.fJ,Rx.iA,Rx.Cq,Rx.l7,Rx.l7,mq _ _ _ _ h];by_cases e:k=i
 ·subst e;rw[aw ae,aw ae,h0,JZ];grind
 ·rw[aq e,aq (λh=>e h.symm)];grind
def adg{a b:List Int}{n m:Nat}(hn:b.length=n+1)(hm:a.length=n+m)(hb:b.getD n 0=1):∀j,j≤m→
  Rx.zx a=Rx.zx (gG a b n m j).1*Rx.zx b+Rx.zx (gG a b n m j).2∧(∀i,i<m-j→(gG a b n m j).1.getD i 0=0)∧(∀i,n+(m-j)≤i→(gG a b n m j).2.getD i 0=0)∧(1≤j→(gG a b n m j).1.getD (m-1) 0=a.getD (m-1+n) 0)
 |0,_=>by
  have hz:∀i,(List.replicate m (0:Int)).getD i 0=0:=λi=>by rw[aY,mM];split<;>rfl
  refine⟨?_,λi _=>hz i,λi hi=>dz a af,λh=>absurd h af⟩;show Rx.zx a=Rx.zx (List.replicate m 0)*Rx.zx b+Rx.zx a;rw[show Rx.zx (List.replicate m (0:Int))=0 from Rx.ext λi=>by rw[Rx.l7,hz];rfl,Rx.zero_mul,Rx.zero_add]
 |j+1,hj=>by
  obtain⟨h1,h2,h3,h4⟩:=adg hn hm hb j af;obtain⟨l1,l2⟩:=Ny a b n m j;have h0:j=0→(gG a b n m j).2=a:=λe=>by subst e;rfl
  rw[gG];generalize gG a b n m j=x at*;obtain⟨q,r⟩:=x;simp only at h1 h2 h3 h4 l1 l2 h0⊢;refine⟨?_,λi hi=>?_,λi hi=>?_,λ_=>?_⟩
  ·rw[aoi _ af (h2 _ af),aoh _ af,h1,Rx.add_mul,Rx.mul_assoc (Rx.K _) (Rx.X _)];generalize Rx.K ((r.getD (m-1-j+n) 0:Int):Rat)*(Rx.X (m-1-j)*Rx.zx b)=u;rw[Rx.add_assoc,Rx.add_comm u,Rx.lT]
  ·rw[mq _ _ _ _ af,aq af,h2 i af]
  ·by_cases uZ:i<r.length
   ·rw[CK uZ];by_cases e:i=m-1-j+n
    ·rw[aw af,e,show m-1-j+n-(m-1-j)=n by omega,hb,nm,J5]
    ·split
     ·rw[h3 i af,dz b (i:=i-(m-1-j)) af,eo];rfl
     ·exact h3 i af
   ·exact dz _ (by rw[vQ];omega)
  ·rw[mq _ _ _ _ af];by_cases e:j=0
   ·subst e;rw[aw af,h0 ae,A9]
   ·rw[aq af,h4 af]
def aoj(a b:List Int)(kK:a.length<b.length)(lb:b.length≤1000):aG Tryz.prog 282 [cS .z a,cS .z b] (.t [(false,[.S .z []]),(false,[.B false])]):=by
 refine aX Tryz.func282 ae ae ae ae ae ak ?_;refine rr ae (rr ae (aj (rr ae (ax ae (λh=>?_) (λh=>?_)))))
 ·exact rr ae (aF (bW (aL ar ae (Uj .z _))))
 ·have h:¬(a.length:Int)≤(b.length:Int)-1:=bC h;exact absurd kK af
open Classical in
noncomputable def I5(a b:List Int):AV:=if Rx.zx b∣Rx.zx a then .t [(false,[.S .z (qT a b)]),(false,[.B true])]else .t [(false,[.S .z []]),(false,[.B false])]
def adh{a b:List Int}(h:Rx.zx b∣Rx.zx a):I5 a b= .t [(false,[.S .z (qT a b)]),(false,[.B true])]:=by unfold I5;rw[aw h]
def Ul{a b:List Int}(h:¬Rx.zx b∣Rx.zx a):I5 a b= .t [(false,[.S .z []]),(false,[.B false])]:=by unfold I5;rw[aq h]
def aok{a b:List Int}{u v:Nat}(ha:bQ a)(hb:bQ b)(la:a.length≤100)(lb:b.length≤1000)(hu:u≤100000)(hv:v≤100000)(hA:∀i,aU u (a.getD i 0))(hB:∀i,aU v (b.getD i 0)):aG Tryz.prog 282 [cS .z a,cS .z b] (I5 a b):=by
 have pb:=cX.2 hb.1;have Ns:Rx.zx a≠0:=(Rx.oe ha).ne;by_cases kK:a.length<b.length
 ·rw[Ul λhd=>?_]
  ·exact aoj a b kK lb
  ·have:=Rx.kD hd Ns;rw[Rx.mL ha.can,Rx.mL hb.can]at this;omega
 ·obtain⟨n,hn⟩:∃n,b.length=n+1:=⟨b.length-1,by omega⟩;obtain⟨m,hm⟩:∃m,a.length=n+m:=⟨a.length-n,by omega⟩;have jl:b.getD n 0=1:=by have:=hb.2;rwa[hn,jx]at this
  have wG:a.getD (m-1+n) 0=1:=by have:=ha.2;rwa[hm,show n+m-1=m-1+n by omega]at this
  obtain⟨h1,_,h3,h4⟩:=adg hn hm jl m (bF _);obtain⟨l1,l2⟩:=Ny a b n m m;have qm:bQ (gG a b n m m).1:=⟨λe=>by rw[e]at l1;simp at l1;omega,by rw[l1,h4 af,wG]⟩;by_cases hz:∀i,i<n→(gG a b n m m).2.getD i 0=0
  ·have r0:Rx.zx (gG a b n m m).2=0:=Rx.ext λi=>by
    rw[Rx.l7];by_cases hi:i<n
    ·rw[hz i hi];rfl
    ·rw[h3 i af];rfl
   rw[r0,Rx.add_zero]at h1;have hd:Rx.zx b∣Rx.zx a:=⟨_,h1⟩;have hex:∃q,bQ q∧Rx.zx a=Rx.zx b*Rx.zx q:=⟨_,qm,by rw[Rx.mul_comm];exact h1⟩;have e0:qT a b=Classical.choose hex:=by unfold qT;rw[dif_pos hex]
   obtain⟨c1,c2⟩:=xy hex;rw[←e0]at c1 c2;have eq:qT a b=(gG a b n m m).1:=Rx.anp c1.can qm.can (Rx.Am (Rx.oe hb).ne (by rw[←h1,c2,Rx.mul_comm]));rw[adh hd];exact ade a b n m u v hn hm af la hu hv hA hB _ true (λ_=>⟨eq,hz⟩) (λh=>by cases h)
  ·have hex:∃i,i<n∧(gG a b n m m).2.getD i 0≠0:=gn λI6=>hz λi hi=>gn λh=>I6 ⟨i,hi,h⟩
   rw[Ul λhd=>?_]
   ·exact ade a b n m u v hn hm af la hu hv hA hB _ false (λh=>by cases h) (λ_=>⟨ae,hex⟩)
   ·rw[h1]at hd;have h5:=Rx.wV hd (Rx.dvd_mul_left _ _);have h6:=Rx.vq h5 (by
     rw[Rx.mL hb.can];have:=Rx.vD (A:=Rx.zx (gG a b n m m).2) (n:=n) λi hi=>by rw[Rx.l7,h3 i af];rfl
     omega)
    obtain⟨i,_,i2⟩:=hex;have h7:Rx.zx (gG a b n m m).2 i=(0:Rx) i:=by rw[h6]
    rw[Rx.l7]at h7;exact i2 (VV.1 h7)
end Go.El
namespace Go.El
open Go Go.RowKit
section
variable{P:Program}
def aol{g:Gh}:∀(vs:List AV)(us:List Value)(i:Nat)(all:List Value),us.length=vs.length→(∀j,j<us.length→all[i+j]? =us[j]?)→(∀t v,ao t (kZ i vs)=some v→bP g v (all.toArray.getD t undef))→jo g vs us:=by
 intro vs;induction vs with
 |nil=>intro us i all hl _ _;exact ik FN
 |cons x vs ih=>
  intro us i all hl ns hr
  cases us with
  |nil=>simp at hl
  |cons u us=>
   refine⟨u,us,ae,?_,ih us (i+1) all FN ?_ ?_⟩
   ·have h1:=hr i x (by simp[kZ,ao]);have h2:=ns 0 be;simp only[j6,AW]at h2;simpa[h2]using h1
   ·intro j hj;have:=ns (j+1) yZ;rw[show i+1+j=i+(j+1)by omega];simpa using this
   ·intro t v ht;refine hr t v ?_;have aN:∀(l:List AV)(i':Nat),i<i'→∀v,ao i (kZ i' l)=some v→False:=by
     intro l;induction l with
     |nil=>intro i' _ v h;simp[kZ,ao]at h
     |cons y l ihl=>
      intro i' bh v h
      simp only[kZ,ao]at h
      split at h
      ·omega
      ·exact ihl (i'+1) af v h
    simp only[kZ,ao];split
    ·rename_i e;subst e;exact(aN vs (i+1) af v ht).elim
    ·exact ht
open Classical in
end
section
variable{P:Program}{tt:TT}
def aon{Fe:Fence}{n:Nat}{c:Code}{α:Type}(I:α→Act→World→Prop)(μ:α→Nat){Q:Exit→Act→World→Prop}(x:α){a:Act}{w:World}(h₀:I x a w)
  (round:∀x a w,I x a w→c.wpIn Fe n P (Exit.then (λa' w'=>∃x',I x' a' w'∧μ x'<μ x) Q) a w):(Code.loop c).wpIn Fe n P Q a w:=by
 intro b k cs Um hb hr
 have key:∀j x a w,μ x=j→I x a w→
   ∃e a' w',Q e a' w'∧ArrivesIn (Machine.fenced P Fe) P (lone (b.atR a (.code c:: .inLoop c::k)) cs w) b k cs e a' w':=by
  intro j
  induction j using Nat.strongRecOn with
  |_ j ih=>
   intro x a w hn hI
   obtain⟨e,a₁,w₁,hq,iL⟩:=round x a w hI b (.inLoop c::k) cs Um hb hr
   cases e with
   |normal=>
    obtain⟨x',PQ,bh⟩:=hq
    obtain⟨e₂,a₂,w₂,PR,PU⟩:=ih (μ x') (hn▸bh) x' a₁ w₁ ae PQ
    exact⟨e₂,a₂,w₂,PR,.of_steps (StepsIn.trans iL (.one (fenced_calm hb hr ae) stepR_inLoop)) PU⟩
   |exit id=>exact⟨_,a₁,w₁,hq,.pass (x:= .inLoop c) ae (λ_ _=> .inl be) iL⟩
   |goto l=>exact⟨_,a₁,w₁,hq,.pass (x:= .inLoop c) ae (λ_ _=> .inl be) iL⟩
   |ret=>exact⟨_,a₁,w₁,hq,.pass (x:= .inLoop c) ae (λ_ _=> .inl be) iL⟩
   |panic ch=>exact⟨_,a₁,w₁,hq,.pass (x:= .inLoop c) ae (λ_ _=> .inl be) iL⟩
   |outgrown=>exact⟨_,a₁,w₁,hq,.pass (x:= .inLoop c) ae (λ_ _=> .inl be) iL⟩
 obtain⟨e,a',w',hq,iL⟩:=key _ x a w ae h₀
 exact⟨e,a',w',hq,.of_steps (.one (fenced_calm hb hr ae) stepR_loop) iL⟩
end
def c8.re(F:c8)(W:World)(g:Gh)(k:Nat):c8:={F with w0:=W,H0:=g.H,own:=λb=>F.N b∧∀o:Obj,W.heap[b]? =some o→o.isCells=true,k0:=k,γ0:=g.γ}
def ji.Nz{N N':Nat→Prop}{g:Gh}{W:World}{id:Nat}{b:aJ}(hN:∀(x:Nat)(vs:Array Value)(E:TypeId)(p:Nat×Nat),W.heap[x]? =some (.cells vs E p)→N x→N' x)(h:ji N g W id b):ji N' g W id b:=by
 cases b with
 |box E sz cs=>
  obtain⟨b,vs,rest,e,hh,hr,hn,hz⟩:=h
  exact⟨b,vs,rest,e,hh,hr,hN _ _ _ _ hh hn,hz⟩
 |vec E T xs=>
  rcases h with h|⟨b,cap,vs,e,hh,h1,h2,pY,h3,hn,hz⟩
  ·exact .inl h
  ·exact .inr ⟨b,cap,vs,e,hh,h1,h2,pY,h3,hN _ _ _ _ hh hn,hz⟩
 |fQ f first caps=>exact h
 |fz E cs=>
  obtain⟨b,vs,rest,e,hh,hr,hn,hz⟩:=h
  exact⟨b,vs,rest,e,hh,hr,hN _ _ _ _ hh hn,hz⟩
section
variable{F:c8}{k k':Nat}{σ σ':Kn}{g g':Gh}{W W':World}{a a':Act}
def bJ.re(h:bJ F (·<k) σ g W a):bJ (F.re W g k) (·<k) σ g W a:=by refine⟨h.size,h.defers,h.gw,λid b hb=>(h.c9 id b hb).Nz ?_,h.inj,h.aD,h.fy,h.sub,⟨ae,ae,ae,bF _,λ_ _ _=>rfl⟩,cC.refl _,λ_ _ _ _=>rfl,λid al=>⟨al,ae⟩⟩;intro x vs E p hx hn;refine .inr ⟨hn,λo ho=>?_⟩;rw[hx]at ho;cases ho;rfl
def bJ.un(h0:bJ F (·<k) σ g W a)(h:bJ (F.re W g k) (·<k') σ' g' W' a'):
  bJ F (·<k') σ' g' W' a'∧KeepsOthers W W'∧iH (·<k) g g':=by
 refine⟨⟨h.size,h.defers,h.gw,λid b hb=>(h.c9 id b hb).Nz ?_,h.inj,h.aD,h.fy,h.sub,?_,h0.le.trans h.le,?_,?_⟩,?_,h.le,λid al=>(h.iu id al).2⟩
 ·intro x vs E p hx hn;rcases hn with hn|hn
  ·exact .inl (dG h0.below.size hn)
  ·exact hn.1
 ·refine⟨h.below.os.trans h0.below.os,h.below.tape.trans h0.below.tape,h.below.output.trans h0.below.output,dG h0.below.size h.below.size,λj hj ef=>?_⟩;rw[←h0.below.block j hj ef];refine h.below.block j (kl hj h0.below.size) (λhc=>?_);rcases hc.1 with h1|h1
  ·omega
  ·exact ef h1
 ·intro b o hb ef;rw[←h0.fresh b o hb ef];refine h.fresh b o (kl hb h0.below.size) (λhc=>?_);rcases hc.1 with h1|h1
  ·omega
  ·exact ef h1
 ·intro id al;have h1:=h0.iu id al;have h2:=h.iu id h1.1;exact⟨h2.1,h2.2.trans h1.2⟩
 ·refine⟨h.below.size,λj o hj ho=>?_⟩;rw[←hj];refine h.below.block j (jO.1 hj).1 (λhc=>?_);rw[hc.2 o hj]at ho;cases ho
structure WX(B:Nat)(W W':World):Prop where
 os:W'.os=W.os
 tape:W'.tape=W.tape
 output:W'.output=W.output
 size:W.heap.size≤W'.heap.size
 same:∀(k:Nat)(o:Obj),W.heap[k]? =some o→o.isCells=true∨k<B→W'.heap[k]? =some o
def bJ.wx{known:Nat→Prop}(h:bJ F known σ g W a)(hx:WX F.w0.heap.size W W'):bJ F known σ g W' a:=by
 refine⟨h.size,h.defers,h.gw,λid b hb=>?_,h.inj,h.aD,h.fy,?_,⟨hx.os.trans h.below.os,hx.tape.trans h.below.tape,hx.output.trans h.below.output,dG h.below.size hx.size,λj hj ef=>?_⟩,h.le,h.fresh,h.iu⟩
 ·have hr:=h.c9 id b hb;cases b with
  |box E sz cs=>
   obtain⟨b,vs,rest,e,hh,hr,hn,hz⟩:=hr
   exact⟨b,vs,rest,e,hx.same _ _ hh (.inl ae),hr,hn,hz⟩
  |vec E T xs=>
   rcases hr with h|⟨b,cap,vs,e,hh,h1,h2,pY,h3,hn,hz⟩
   ·exact .inl h
   ·exact .inr ⟨b,cap,vs,e,hx.same _ _ hh (.inl ae),h1,h2,pY,h3,hn,hz⟩
  |fQ f first caps=>exact hr
  |fz E cs=>
   obtain⟨b,vs,rest,e,hh,hr,hn,hz⟩:=hr
   exact⟨b,vs,rest,e,hx.same _ _ hh (.inl ae),hr,hn,hz⟩
 ·intro b o v hv;have hc:=h.sub b o v hv;obtain⟨ob,ho,hi⟩:=cells_of_cell hc;rw[←hc];exact World.cell?_of_block ((hx.same _ _ ho (.inl hi)).trans ho.symm)
 ·have hk:j<W.heap.size:=kl hj h.below.size;have ry:W.heap[j]? =some W.heap[j]:=VT hk;rw[hx.same j _ ry (.inr hj),←h.below.block j hj ef,ry]
def WX.refl(B:Nat)(W:World):WX B W W:=⟨ae,ae,ae,bF _,λ_ _ h _=>h⟩
def WX.trans{B:Nat}{A C D:World}(h:WX B A C)(h':WX B C D):WX B A D:=
 ⟨h'.os.trans h.os,h'.tape.trans h.tape,h'.output.trans h.output,dG h.size h'.size,λk o hk hc=>h'.same k o (h.same k o hk hc) hc⟩
def WX.alloc(B:Nat)(W:World)(o:Obj):WX B W (W.alloc o):=
 ⟨ae,ae,ae,by simp,λk _ hk _=>(Below.heap_alloc W o k (jO.1 hk).1).trans hk⟩
def WX.putObj{B:Nat}{W:World}{l:Nat}{o:Obj}(o':Obj)(hl:W.heap[l]? =some o)(ho:o.isCells=false)(hB:B≤l):WX B W (W.putObj l o'):=
 ⟨ae,ae,ae,by simp,λk ob hk hc=>by
  have aN:k≠l:=by
   intro e;subst e;rw[hl]at hk;cases hk;rcases hc with hc|hc
   ·rw[ho]at hc;cases hc
   ·omega
  rw[World.putObj_heap_other aN];exact hk⟩
def Gh.new(g:Gh)(k:Nat)(u:Value):Gh:=⟨g.H,λid=>if id=k then u else g.γ id⟩
end
section
variable{P:Program}{Fe:Fence}{n:Nat}{Q:Exit→Act→World→Prop}{a:Act}{w:World}
def aoo{c:Code}(h:c.wpIn Fe n P (Exit.noGoto Q) a w):(Code.scope c).wpIn Fe n P Q a w:=by
 intro b k cs Um hb hr;have s1:step P (lone (b.atR a (.code (.scope c)::k)) cs w)= .next (lone (b.atR a (.code c:: .inScope c::k)) cs w):=step_lone_go (by simp[Go.stepG,Go.stepG.exec,Frame.atR])
 have s2:∀a w,step P (lone (b.atR a (.inScope c::k)) cs w)= .next (lone (b.atR a k) cs w):=λa w=>step_lone_go (by simp[Go.stepG,Go.stepG.exec,Frame.atR])
 have h0:(lone (b.atR a (.code (.scope c)::k)) cs w).fenced P Fe:=fenced_calm hb hr ae;obtain⟨e,a₁,w₁,hq,iL⟩:=h b (.inScope c::k) cs Um hb hr;cases e with
 |normal=>exact⟨.normal,a₁,w₁,hq,.head h0 s1 (StepsIn.trans iL (.one (fenced_calm hb hr ae) (s2 _ _)))⟩
 |exit id=>
  refine⟨.exit id,a₁,w₁,hq,λk' hk=> .head h0 s1 (iL.1 k' (by simp[exitTo,hk])),λD3 hk=>?_⟩
  obtain⟨k₁,h1,h2⟩:=iL.2 D3 (by simp[exitTo,hk])
  exact⟨k₁,h1,.head h0 s1 h2⟩
 |goto l=>exact hq.elim
 |ret=>exact⟨_,a₁,w₁,hq,.of_steps (.one h0 s1) iL⟩
 |panic ch=>exact⟨_,a₁,w₁,hq,.of_steps (.one h0 s1) iL⟩
 |outgrown=>exact⟨_,a₁,w₁,hq,.of_steps (.one h0 s1) iL⟩
end
section
variable{P:Program}{tt:TT}
def tk(fn:FuncId)(tmps:Array Value)(p:Nat)(iT bd:Code)(D:Nat)(pd:Option Code):Loop:=
 {state:=if pd.isNone then .ready else .done,pending:=pd,fn:=fn,tmps:=tmps,params:= #[p],assign:=iT,body:=bd,defers:=D}
variable{F:c8}{dep n as4 n0:Nat}{a0:Act}{ds0:List Deferred}{kt l:Nat}{nf:FuncId}{p D:Nat}{iT bd:Code}{mk:List Nat}
end
def tl(D:Nat):Deferred:={target:= .collected D,args:= #[]}
section
variable{P:Program}{tt:TT}
def adi{fn:Func}{tmps:Array Value}{R:Ending→World→Prop}{B:Nat}:∀(mk:List Nat)(W:World),(∀D∈mk,W.heap[D]? =some (.deferred (some []))∧B≤D)→mk.Nodup→
  (∀W',WX B W W'→∃v,(results fn tmps).run P W'= .ok v W'∧R (.returned v) W')→LeavesInM (gx none) 0 P fn tmps R (mk.map tl) .returning W
 |[],W,_,_,h=>h W (WX.refl _ _)
 |D::mk,W,hm,fF,h=>by
  have h0:=hm D be;have hx:=WX.putObj (B:=B) (.deferred none) h0.1 ae h0.2;refine⟨by simp,.inl ⟨D,_,ae,run_takeDeferred h0.1,?_⟩⟩;refine adi mk _ (λD' Fp=>⟨?_,(hm D' (by simp[Fp])).2⟩) (zc.1 fF).2 (λW' nz=>h W' (hx.trans nz));have aN:D'≠D:=λe=>(zc.1 fF).1 (e▸Fp)
  rw[World.putObj_heap_other aN];exact(hm D' (by simp[Fp])).1
end
section
variable{P:Program}{tt:TT}
def aoq{ops:Array Oper}{draw:Bool}{st:St}{Q:St→Prop}{F:c8}{id:Nat}{R:Exit→Act→World→Prop}(fF:zv F.rd ops)(oz:P.follows .mixedOrders=true)(h:RG P F.n ops draw st.nx 0 ops.toList st [] Q)
  (hQ:∀st',Q st'→∀g W a,bJ F (kb st') st'.kn g W a→R .normal a W) {g:Gh} {W:World} {a:Act} (h0:bJ F (kb st) st.kn g W a):(Code.region id ops draw).wpIn (gx F.rd) 0 P R a W:=by
 obtain⟨ds,st',hl,h1,h2,h3,h4,rj,h5,h6⟩:=h be
 have Gk:ds.length=ops.size:=FN
 have hs:∀i,i<ops.size→zw P F.n ops i ((ds.getD i ([],[])).1) ((ds.getD i ([],[])).2) (sB (λi=>1000000*st.nx+1000*i) i):=by intro i hi;have:=h1 i af;rw[Bq ds _ i af];simpa using this
 have ht:∀i,i<ops.size→∀kx∈(ds.getD i ([],[])).1,fold (λi=>(ds.getD i ([],[])).2) st.kn (List.range i) kx.1=some kx.2:=by intro i hi kx aS;rw[KB ds st.kn i af];rw[Bq ds _ i af]at aS;exact h2 i af kx aS
 have tL:∀g W a,bJ F (·<1000000*st.nx+1000*ops.size) (fold (λi=>(ds.getD i ([],[])).2) st.kn (List.range ops.size)) g W a→R .normal a W:=by intro g W a hh;refine hQ st' h6 g W a ?_;rw[h3];rw[KB ds st.kn ops.size af,lD af]at hh;exact hh.weaken (λid al=>by simp only[kb,h4];omega)
 cases draw with
 |false=>exact Wy (c:=λi=>1000000*st.nx+1000*i) (λi=>by show 1000000*st.nx+1000*i≤1000000*st.nx+1000*(i+1);omega) h0 hs ht tL fF
 |true=>
  obtain⟨ks,⟨ru,zG⟩,Bp⟩:=h5 ae
  have ho:=W5 Bp
  have Br:∀i j,i<j→j<ops.size→∀a b:Ks,(ks[i]? =some a→ks[j]? =some b→sI a b=true→ow ops i j):=by intro i j nt hj a b ha hb hc;exact ho.2 i j a b nt hj (by simpa using ha) (by simpa using hb) hc
  have mV:∀i(hi:i<ops.size),∃a,ks[i]? =some a∧(∀k∈dO (ds.getD i ([],[])).1,k∈a.1)∧∀k∈fe (ds.getD i ([],[])).2,k∈a.2:=by intro i hi;have tM:i<ks.length:=af;refine⟨ks[i],ct tM,?_⟩;rw[Bq ds _ i af];exact zG i af tM
  refine WA (c:=λi=>1000000*st.nx+1000*i) (λi=>by show 1000000*st.nx+1000*i≤1000000*st.nx+1000*(i+1);omega) oz ho.1 h0 hs ht ?_ ?_ ?_ tL fF
  ·intro i j nt hj k fX dL;obtain⟨a,ha,_,wF⟩:=mV i af;obtain⟨b,hb,_,dK⟩:=mV j hj;exact Br i j nt hj a b ha hb (by simp only[sI,DU (wF k fX) (dK k dL),O3])
  ·intro i j nt hj k fX dL;obtain⟨a,ha,_,wF⟩:=mV i af;obtain⟨b,hb,jl,_⟩:=mV j hj;exact Br i j nt hj a b ha hb (by simp only[sI,DU (wF k fX) (jl k dL),O3,O4])
  ·intro i j nt hj k fX dL;obtain⟨a,ha,wG,_⟩:=mV i af;obtain⟨b,hb,_,dK⟩:=mV j hj;exact Br i j nt hj a b ha hb (by simp only[sI,DU (wG k fX) (dK k dL),O4])
def c8.dr(F:c8)(ds:List Deferred):c8:={F with ds:=ds}
abbrev vR:=c8→List Deferred→World→Prop
def AM(O:vR):Prop:=∀F ds W W',KeepsOthers W W'→O F ds W→O F ds W'
variable{n:Nat}{Q:fA}{st:St}{O:vR}
def gH(n:Nat)(e:Exit)(st:St)(O:vR)(Q:fA):Prop:=∀F:c8,F.n=n→F.k0≤1→∀ds g W a,bJ (F.dr ds) (kb st) st.kn g W a→O F ds W→Q F e a W
def TJ(P:Program)(n:Nat)(c:Code)(st:St)(O:vR)(Q:fA):Prop:=∀F:c8,F.n=n→F.k0≤1→qn F.rd c→∀ds g W a,bJ (F.dr ds) (kb st) st.kn g W a→O F ds W→c.wpIn (gx F.rd) 0 P (Q F) a W
def NA(P:Program)(y:Code)(Q:fA):fA:=λF=>Exit.then (λa W=>qn F.rd y→y.wpIn (gx F.rd) 0 P (Q F) a W) (Q F)
def CL(id:Nat)(Q:fA):fA:=λF=>Exit.inBlock id (Q F)
def I7{α:Type}(iw:α→St)(φ:α→Prop)(μ:α→Nat)(x:α)(O:vR)(Q:fA):fA:=λF=>Exit.then (λa W=>∃x' g ds,φ x'∧μ x'<μ x∧bJ (F.dr ds) (kb (iw x')) (iw x').kn g W a∧O F ds W) (Q F)
def qU{x y:Code}(h:TJ P n x st O (NA P y Q)):TJ P n (.seq x y) st O Q:=λF hF hk fF ds g W a hh ho=>by
 obtain⟨h1,h2⟩:=fF.seq;refine wpIn_seq (wpIn_mono (h F hF hk h1 ds g W a hh ho) ?_);intro e a' W' hq;cases e with
 |normal=>exact hq h2
 |_=>exact hq
def CM(h:gH n .normal st O Q):TJ P n .skip st O Q:=λF hF hk _ ds g W a hh ho=>wpIn_skip (h F hF hk ds g W a hh ho)
def aor{l:Nat}(h:gH n .normal st O Q):TJ P n (.label l) st O Q:=λF hF hk _ ds g W a hh ho=>wpIn_label (h F hF hk ds g W a hh ho)
def I9{id:Nat}(h:gH n (.exit id) st O Q):TJ P n (.exit id) st O Q:=λF hF hk _ ds g W a hh ho=>wpIn_exit (h F hF hk ds g W a hh ho)
def adk(h:gH n .ret st O Q):TJ P n .ret st O Q:=λF hF hk _ ds g W a hh ho=>wpIn_ret (h F hF hk ds g W a hh ho)
def uC{id:Nat}{c:Code}(h:TJ P n c st O (CL id Q)):TJ P n (.block id c) st O Q:=λF hF hk fF ds g W a hh ho=>wpIn_block (h F hF hk fF ds g W a hh ho)
def xm{c:Operand}{x y:Code}{b:Bool}(hc:st.ev c=some (.c (.B b)))(ht:b=true→TJ P n x st O Q)(hf:b=false→TJ P n y st O Q):TJ P n (.cond c x y) st O Q:=by intro F hF hk fF ds g W a hh ho;obtain⟨h1,h2⟩:=fF.cond;have hr:bP g (.c (.B b)) (a.eval c):=gy hh st c _ hc (fY st c);exact wpIn_cond_split hr (λe=>ht e F hF hk h1 ds g W a hh ho) (λe=>hf e F hF hk h2 ds g W a hh ho)
def NB{id:Nat}{ops:Array Oper}{draw:Bool}(oz:P.follows .mixedOrders=true)(hO:AM O)(h:RG P n ops draw st.nx 0 ops.toList st [] (λst'=>gH n .normal st' O Q)):TJ P n (.region id ops draw) st O Q:=by intro F hF hk fF ds g W a hh ho;subst hF;refine aoq (F:=(F.dr ds).re W g (1000000*st.nx)) (st:=st) fF.region oz h (λst' hq g' W' a' GM=>?_) (bJ.re (k:=1000000*st.nx) hh);obtain⟨h1,h2,_⟩:=bJ.un (k:=1000000*st.nx) (k':=1000000*st'.nx) hh GM;exact hq F ae hk ds g' W' a' h1 (hO F ds W W' h2 ho)
def CN{c:Code}{st':St}(hw:Wk st st')(h:TJ P n c st' O Q):TJ P n c st O Q:=by intro F hF hk fF ds g W a hh ho;obtain⟨g',h'⟩:=hw (F.dr ds) hk g W a hh;exact h F hF hk fF ds g' W a h' ho
def adl{e:Exit}{st':St}(hw:Wk st st')(h:gH n e st' O Q):gH n e st O Q:=by intro F hF hk ds g W a hh ho;obtain⟨g',h'⟩:=hw (F.dr ds) hk g W a hh;exact h F hF hk ds g' W a h' ho
def oj{y:Code}(h:TJ P n y st O Q):gH n .normal st O (NA P y Q):=λF hF hk ds g W a hh ho fF=>h F hF hk fF ds g W a hh ho
def I'{y:Code}{id:Nat}(h:gH n (.exit id) st O Q):gH n (.exit id) st O (NA P y Q):=h
def adn{y:Code}(h:gH n .ret st O Q):gH n .ret st O (NA P y Q):=h
def AN{id:Nat}(h:gH n .normal st O Q):gH n .normal st O (CL id Q):=h
def Fq{id:Nat}(h:gH n .ret st O Q):gH n .ret st O (CL id Q):=h
def Ja{id:Nat}(h:gH n .normal st O Q):gH n (.exit id) st O (CL id Q):=λF hF hk ds g W a hh ho=>by simp only[CL,Exit.inBlock,cM];exact h F hF hk ds g W a hh ho
def ado{id b6:Nat}(h:gH n (.exit b6) st O Q)(aN:b6≠id:=by decide):gH n (.exit b6) st O (CL id Q):=λF hF hk ds g W a hh ho=>by simp only[CL,Exit.inBlock,aN,cP];exact h F hF hk ds g W a hh ho
def NC{α:Type}{iw:α→St}{φ:α→Prop}{μ:α→Nat}{x:α}{id:Nat}(h:gH n (.exit id) st O Q):gH n (.exit id) st O (I7 iw φ μ x O Q):=h
def aos{α:Type}{iw:α→St}{φ:α→Prop}{μ:α→Nat}{x:α}(h:gH n .ret st O Q):gH n .ret st O (I7 iw φ μ x O Q):=h
def CO{α:Type}{iw:α→St}{φ:α→Prop}{μ:α→Nat}{x:α}(x':α)(h1:φ x')(h2:μ x'<μ x)(hw:Wk st (iw x')):gH n .normal st O (I7 iw φ μ x O Q):=by intro F hF hk ds g W a hh ho;obtain⟨g',h'⟩:=hw (F.dr ds) hk g W a hh;exact⟨x',g',ds,h1,h2,h',ho⟩
def Jb{α:Type}(iw:α→St)(φ:α→Prop)(μ:α→Nat)(x0:α){c:Code}(h0:φ x0)(hw:Wk st (iw x0))(round:∀x,φ x→TJ P n c (iw x) O (I7 iw φ μ x O Q)):TJ P n (.loop c) st O Q:=by
 intro F hF hk fF ds g W a hh ho;obtain⟨g',h'⟩:=hw (F.dr ds) hk g W a hh;refine aon (λx a W=>φ x∧∃g ds,bJ (F.dr ds) (kb (iw x)) (iw x).kn g W a∧O F ds W) μ x0 ⟨h0,g',ds,h',ho⟩ ?_;rintro x a W ⟨hφ,g,ds,hg,ho⟩;refine wpIn_mono (round x hφ F hF hk fF.loop ds g W a hg ho) ?_;intro e a' W' hq;cases e with
 |normal=>
  obtain⟨x',PV,ds',h1,h2,h3,h4⟩:=hq
  exact⟨x',⟨h1,PV,ds',h3,h4⟩,h2⟩
 |_=>exact hq
def aot{c:Code}(h:TJ P n c st O (λF=>Exit.noGoto (Q F))):TJ P n (.scope c) st O Q:=λF hF hk hn ds g W a hh ho=>aoo (h F hF hk (hn.elim .inl λe=>by cases e) ds g W a hh ho)
end
section
variable{F:c8}{sl sl':List (Nat×AV)}{M M':List (Nat×aJ)}{nx nx':Nat}{gd gd':List (Nat×Bool)}{g g':Gh}{W W':World}{a a':Act}{K:Nat→Prop}
def bJ.frame{n':Nat}{ds':List Deferred}{rd':Option Nat}(h:bJ F K (St.kn ⟨sl,M,nx,gd⟩) g W a)(hs:a'.tmps.size=n')(hd:a'.defers=ds')(xf:∀t v,ao t sl'=some v→bP g v (a'.tmps.getD t undef)∧∀id∈v.aD,K id)(hM:∀id b,ao id M'=some b→ao id M=some b):
  bJ {F with n:=n',ds:=ds',rd:=rd'} K (St.kn ⟨sl',M',nx',gd'⟩) g W a':=by
 have hm:∀id x,(St.kn ⟨sl',M',nx',gd'⟩) (.m id)=some x→(St.kn ⟨sl,M,nx,gd⟩) (.m id)=some x:=by intro id x hx;simp only[St.kn,cq]at hx⊢;obtain⟨b,hb,e⟩:=hx;exact⟨b,hM id b hb,e⟩
 refine⟨hs,hd,λt v hv=>?_,λid b hb=>h.c9 id b (hm _ _ hb),λid b6 b b' k h1 h2 h3 h4=>h.inj id b6 b b' k (hm _ _ h1) (hm _ _ h2) h3 h4,λkey x hx id al=>?_,λid x hx=>h.fy id x (hm _ _ hx),h.sub,h.below,h.le,h.fresh,h.iu⟩
 ·simp only[St.kn,cq]at hv;obtain⟨y,hy,e⟩:=hv;cases e;exact(xf t v hy).1
 ·cases key with
  |m j=>exact h.aD (.m j) x (hm _ _ hx) id al
  |s j=>
   simp only[St.kn,cq]at hx
   obtain⟨y,hy,e⟩:=hx
   subst e
   exact(xf j y hy).2 id al
def bJ.re1{k:Nat}{σ:Kn}(h:bJ F (·<k) σ g W a)(hk:1≤k):bJ (F.re W g 1) (·<k) σ g W a:=by have h1:=h.re;exact⟨h1.size,h1.defers,h1.gw,h1.c9,h1.inj,h1.aD,h1.fy,h1.sub,h1.below,h1.le,h1.fresh,λid al=>⟨by have:id<1:=al;omega,ae⟩⟩
def bJ.un1{k k':Nat}{σ σ':Kn}(h0:bJ F (·<k) σ g W a)(gM:F.k0≤1)(h:bJ (F.re W g 1) (·<k') σ' g' W' a'):
  bJ F (·<k') σ' g' W' a'∧KeepsOthers W W'∧iH (·<1) g g':=by
 refine⟨⟨h.size,h.defers,h.gw,λid b hb=>(h.c9 id b hb).Nz ?_,h.inj,h.aD,h.fy,h.sub,?_,h0.le.trans h.le,?_,?_⟩,?_,h.le,λid al=>(h.iu id al).2⟩
 ·intro x vs E p hx hn;rcases hn with hn|hn
  ·exact .inl (dG h0.below.size hn)
  ·exact hn.1
 ·refine⟨h.below.os.trans h0.below.os,h.below.tape.trans h0.below.tape,h.below.output.trans h0.below.output,dG h0.below.size h.below.size,λj hj ef=>?_⟩;rw[←h0.below.block j hj ef];refine h.below.block j (kl hj h0.below.size) (λhc=>?_);rcases hc.1 with h1|h1
  ·omega
  ·exact ef h1
 ·intro b o hb ef;rw[←h0.fresh b o hb ef];refine h.fresh b o (kl hb h0.below.size) (λhc=>?_);rcases hc.1 with h1|h1
  ·omega
  ·exact ef h1
 ·intro id al;have h1:=h0.iu id al;have h2:=h.iu id (show id<1 by omega);exact⟨h2.1,h2.2.trans h1.2⟩
 ·refine⟨h.below.size,λj o hj ho=>?_⟩;rw[←hj];refine h.below.block j (jO.1 hj).1 (λhc=>?_);rw[hc.2 o hj]at ho;cases ho
def nM(ws:List Value):Value:= .func (.func 0) #[] ws.toArray
def bJ.ghost{k:Nat}(h:bJ F (·<k) (St.kn ⟨sl,M,nx,gd⟩) g W a)(hk:1≤k)(gM:F.k0=0)(hz:∀t v,ao t sl=some v→0∉v.aD)(Fs:∀id b,ao id M=some b→id≠0∧0∉b.aD){caps:List (Bool×List C)}{ws:List Value}(hr:dt g caps ws)(hc:∀id∈fE caps,id≠0∧id<k):
  bJ {F with k0:=1,γ0:=λ_=>nM ws} (·<k) (St.kn ⟨sl,(0,.fQ 0 [] caps)::M,nx',gd'⟩) (g.new 0 (nM ws)) W a:=by
 have jr:iH (λid=>id≠0) g (g.new 0 (nM ws)):=⟨cC.refl _,λid al=>by simp[Gh.new,al]⟩
 have hx:Ext (λid=>id≠0) (λ_=>False) g W (g.new 0 (nM ws)) W:=⟨jr,λ_ _ _=>rfl,h.sub,bF _,λ_ _ _=>rfl,ae,ae,ae⟩
 have Un:(g.new 0 (nM ws)).γ 0=nM ws:=by simp[Gh.new]
 have hM:∀id b,(St.kn ⟨sl,(0,.fQ 0 [] caps)::M,nx',gd'⟩) (.m id)=some (.b b)→(id=0∧b= .fQ 0 [] caps)∨(id≠0∧ao id M=some b):=by
  intro id b hb;simp only[St.kn,ao,cq]at hb;obtain⟨y,hy,e⟩:=hb;cases e;split at hy
  ·rename_i e;cases hy;exact .inl ⟨e.symm,ae⟩
  ·rename_i e;exact .inr ⟨λh=>e h.symm,hy⟩
 have Jc:∀id b,ao id M=some b→(St.kn ⟨sl,M,nx,gd⟩) (.m id)=some (.b b):=λid b hb=>by simp[St.kn,hb]
 refine⟨h.size,h.defers,λt v hv=>?_,λid b hb=>?_,λid b6 b b' kk h1 h2 h3 h4=>?_,λkey x nz id al=>?_,λid x nz=>?_,h.sub,h.below,h.le,h.fresh,λid al=>?_⟩
 ·simp only[St.kn,cq]at hv;obtain⟨y,hy,e⟩:=hv;cases e;exact bP.mono jr (λid al e=>hz t v hy (e▸al)) (h.gw t v (by simp[St.kn,hy]))
 ·rcases hM id b hb with⟨rfl,rfl⟩|⟨aN,dm⟩
  ·exact⟨[],ws,Un,ae,dt.mono jr (λid al=>(hc id al).1) hr⟩
  ·exact(h.c9 id b (Jc id b dm)).step hx aN (λj hj e=>(Fs id b dm).2 (e▸hj)) (λ_ _ hf _=>hf.elim)
 ·have aN:∀id b,(St.kn ⟨sl,(0,.fQ 0 [] caps)::M,nx',gd'⟩) (.m id)=some (.b b)→cN ((g.new 0 (nM ws)).γ id)=some kk→ao id M=some b∧cN (g.γ id)=some kk:=by
   intro id b hb du;rcases hM id b hb with⟨rfl,rfl⟩|⟨aN,dm⟩
   ·rw[Un]at du;simp[nM,cN]at du
   ·rw[jr.γ id aN]at du;exact⟨dm,du⟩
  obtain⟨p1,p2⟩:=aN id b h1 h3;obtain⟨q1,q2⟩:=aN b6 b' h2 h4;exact h.inj id b6 b b' kk (Jc _ _ p1) (Jc _ _ q1) p2 q2
 ·cases key with
  |s j=>
   exact h.aD (.s j) x nz id al
  |m j=>
   cases x with
   |v _=>simp[St.kn]at nz
   |b y=>
    rcases hM j y nz with⟨rfl,rfl⟩|⟨aN,dm⟩
    ·have:id∈fE caps:=by simpa[Info.aD,aJ.aD,fE]using al
     exact(hc id this).2
    ·exact h.aD (.m j) (.b y) (Jc j y dm) id al
 ·cases x with
  |v _=>simp[St.kn]at nz
  |b y=>
   rcases hM id y nz with⟨rfl,rfl⟩|⟨aN,dm⟩
   ·exact hk
   ·exact h.fy id (.b y) (Jc id y dm)
 ·have:id=0:=by have:id<1:=al;omega
  subst this;exact⟨hk,Un⟩
def bJ.ND{k:Nat}{σ:Kn}(h:bJ F (·<k) σ g W a){ws:List Value}(hk:F.k0=1)(hγ:F.γ0 0=nM ws){caps:List (Bool×List C)}(hs:σ (.m 0)=some (.b (.fQ 0 [] caps))):dt g caps ws:=by
 obtain⟨us,vs,e,_,h2⟩:=h.c9 0 _ hs;have e2:=(h.iu 0 af).2;rw[e2,hγ]at e;simp only[nM,Value.func.injEq]at e;have:ws=vs:=by have:=e.2.2;simpa using this
 rw[this];exact h2
end
section
variable{P:Program}{tt:TT}
inductive SG(P:Program)(n:Nat)(ops:Array Oper)(nx:Nat):Nat→St→Nat→St→Prop
 |nil {i:Nat} {st st':St} (h:st'.kn=st.kn):SG P n ops nx i st i st'
 |cons {i j:Nat} {st st1 st2:St} {ks:Ks} (h:kY P n ops i st st1 (1000000*nx+1000*i) ks) (t:SG P n ops nx (i+1) st1 j st2):SG P n ops nx i st j st2
def SG.eq{n:Nat}{ops:Array Oper}{nx i j:Nat}{st st0 st2:St}(h:SG P n ops nx i st j st2)(e:st0.kn=st.kn):SG P n ops nx i st0 j st2:=by
 cases h with
 |nil h=>exact .nil (h.trans e.symm)
 |cons h t=>
  obtain⟨rd,wr,s1,s2,s3,s4,s5⟩:=h
  exact .cons ⟨rd,wr,s1,λkx aS=>by rw[e];exact s2 kx aS,by rw[e];exact s3,s4,s5⟩ t
def SG.le{n:Nat}{ops:Array Oper}{nx i j:Nat}{st st2:St}(h:SG P n ops nx i st j st2):i≤j:=by
 induction h with
 |nil _=>exact bF _
 |cons _ _ ih=>omega
def SG.sound{n:Nat}{ops:Array Oper}{nx i j:Nat}{st st2:St}(h:SG P n ops nx i st j st2):∀(F:c8),F.n=n→zv F.rd ops→∀(Q:Exit→Act→World→Prop)(rest:List Nat) g W a,bJ F (·<1000000*nx+1000*i) st.kn g W a→
  (∀g' W' a',bJ F (·<1000000*nx+1000*j) st2.kn g' W' a'→wpOpsIn (gx F.rd) 0 P ops Q rest a' W')→wpOpsIn (gx F.rd) 0 P ops Q (List.range' i (j-i)++rest) a W:=by
 induction h with
 |nil h=>
  intro F hF fF Q rest g W a hh hK
  rw[iG]
  exact hK g W a (by rw[h];exact hh)
 |@cons i j st st1 st2 ks h t ih=>
  intro F hF fF Q rest g W a hh hK
  have hle:=t.le
  obtain⟨rd,wr,dc,bt,eP,_,_⟩:=h
  rw[show j-i=(j-(i+1))+1 by omega,List.range'_succ,mQ,wpOpsIn_cons]
  refine Pj (fF i) ?_
  refine dc F hF _ (·<1000000*nx+1000*i) _ g W a _ (Nat.lt_irrefl _) hh bt (λg' W' a' h'=>?_)
  rw[←eP]at h'
  exact ih F hF fF Q rest g' W' a' (h'.weaken (λid al=>by rcases al with al|al<;>omega)) hK
def ads{n nx:Nat}{ops:Array Oper}(aT:cL P tt=true):∀(os:List Oper)(i:Nat)(st:St)(p:Pr)(ks:List Ks){cE:List Oper}{i' j:Nat}{st' st2:St}{p':Pr}{cj:List Ks},runs tt n nx false ops.toList os i st p ks=(cE,i',st',p',cj)→p'→(∀q o,os[q]? =some o→ops[i+q]? =some o)→(p→SG P n ops nx i' st' j st2→SG P n ops nx i st j st2)∧p
 |[],i,st,p,ks,cE,i',j,st',st2,p',cj,h,hp,_=>by simp only[runs,cD]at h;obtain⟨rfl,rfl,rfl,rfl,rfl⟩:=h;exact⟨λ_ h=>h,hp⟩
 |o::os,i,st,p,ks,cE,i',j,st',st2,p',cj,h,hp,hg=>by
  rw[runs]at h;split at h
  ·rename_i st1 q k h1;obtain⟨g1,g2⟩:=ads aT os (i+1) st1 (.an p q) (fi false ks k) (j:=j) (st2:=st2) h hp (λr o' Ke=>by have:=hg (r+1) o' (by simpa using Ke);rwa[show i+(r+1)=i+1+r by omega]at this);have g3:p.h∧q.h:=by have:(Pr.an p q).h:=g2;cases p<;>cases q<;>simp_all[Pr.an,Pr.h]
   refine⟨λ_ hsg=> .cons (WW aT (hg 0 o ae) h1 g3.2) (g1 g2 hsg),g3.1⟩
  ·simp only[cD]at h;obtain⟨rfl,rfl,rfl,rfl,rfl⟩:=h;exact⟨λ_ h=>h,hp⟩
end
structure pL where
 n0:Nat
 a0:Act
 S0:List (Nat×AV)
 caps:List (Bool×List C)
 ws:List Value
 l:Nat
 D:Nat
 nf:FuncId
 p:Nat
 iT:Code
 bd:Code
 ms:List Nat
def pL.O(R:pL)(pd:Option Code):vR:=λF ds W=>F.k0=1∧F.γ0 0=nM R.ws∧F.rd=none∧ds=[]∧F.w0.heap.size≤R.l∧W.heap[R.l]? =some (.loop (tk R.nf R.a0.tmps R.p R.iT R.bd R.D pd))∧∀D∈R.ms,W.heap[D]? =some (.deferred (some []))
def pL.adt(R:pL)(pd:Option Code):AM (R.O pd):=λ_ _ _ _ hk ⟨h1,h2,h3,h4,h5,h6,h7⟩=>⟨h1,h2,h3,h4,h5,hk.same _ _ h6 ae,λD hD=>hk.same _ _ (h7 D hD) ae⟩
structure pL.Ok(R:pL):Prop where
 hp:R.p<R.n0
 cR:R.a0.tmps.size=R.n0
 NF:R.l∉R.ms
 Uo:rF R.iT=true
 Up:rF R.bd=true
 cap:∀g,dt g R.caps R.ws→∀t v,ao t R.S0=some v→bP g v (R.a0.tmps.getD t undef)
 sp:ao R.p R.S0=none
def xn:vR:=λ_ ds _=>ds=[]
def adu:AM xn:=λ_ _ _ _ _ h=>h
def Jd(bo:Bool)(xid:Nat)(Mo:List (Nat×aJ)):fA:=λF e a W=>e=(if bo then .normal else .exit xid)∧∃g nx',1≤nx'∧bJ (F.dr []) (·<1000000*nx') (St.kn ⟨[],Mo,nx',[]⟩) g W a
def om(bo:Bool)(xid:Nat):Option Code:=if bo then none else some (.exit xid)
section
variable{P:Program}{R:pL}
def aov(ok:R.Ok){xid:Nat}{stB:St}{v:AV}{nxr:Nat}{M Mo:List (Nat×aJ)}{bo:Bool}(Y8:1≤nxr)(HH:1≤stB.nx)
  (hA:TJ P R.n0 R.iT ⟨(R.p,v)::R.S0,M,nxr,[]⟩ xn (λF e a W=>e= .normal∧∃g,bJ (F.dr []) (kb stB) stB.kn g W a))
  (hB:TJ P R.n0 R.bd stB xn (Jd bo xid Mo))
  {F:c8} {k:Nat} {slI:List (Nat×AV)} {nxI:Nat} {gdI:List (Nat×Bool)} {g:Gh} {W:World} {aI:Act} (h:bJ F (·<k) (St.kn ⟨slI,M,nxI,gdI⟩) g W aI) (hk:k≤1000000*nxr) (NG:ao 0 M=some (.fQ 0 [] R.caps)) (Je:∀t v,ao t R.S0=some v→∀id∈v.aD,id<k)
  {u:Value} (hv:bP g v u) (Uq:v.aD=[]) (hO:R.O none F [] W) {Rr:Ending→World→Prop}
  (hR:∀g' W' nx' a',1≤nx'→bJ {F with n:=R.n0,ds:=[],rd:=some R.l} (·<1000000*nx') (St.kn ⟨[],Mo,nx',[]⟩) g' W' a'→cC g.H g'.H→KeepsOthers W W∧R.O (om bo xid) F [] W'→Rr (.returned (.bool bo)) W'):
  RoundIn (gx none) 0 P R.l R.nf (R.a0.tmps.setIfInBounds R.p u) R.iT R.bd W Rr:=by
 obtain⟨o1,o2,o3,o4,o5,o6,o7⟩:=hO
 have bU:=h.ND o1 o2 (caps:=R.caps) (by simp[St.kn,NG])
 have h0:bJ {F with n:=R.n0,ds:=[],rd:=some R.l} (·<1000000*nxr) (St.kn ⟨(R.p,v)::R.S0,M,nxr,[]⟩) g W {tmps:=R.a0.tmps.setIfInBounds R.p u,defers:=[]}:=by
  refine bJ.frame (h.weaken (λid al=>kl al hk)) (by simpa using ok.cR) ae (λt w hw=>?_) (λid b hb=>hb);simp only[ao]at hw;split at hw
  ·rename_i e;cases hw;subst e;have bh:R.p<R.a0.tmps.size:=by rw[ok.cR];exact ok.hp
   refine⟨by simpa[bh]using hv,λid al=>by rw[Uq]at al;cases al⟩
  ·rename_i e;have h1:=ok.cap g bU t w hw;refine⟨?_,λid al=>kl (Je t w hw id al) hk⟩;have:=nN (xs:=R.a0.tmps) (a:=u) e;simpa[this]using h1
 refine roundIn_of_wpIn (F:=gx none) ah ?_
 refine wpIn_mono (F:=gx (some R.l)) (hA (({F with n:=R.n0,ds:=[],rd:=some R.l}:c8).re W g 1) ae (bF _) (.inr ok.Uo) [] g W _ (bJ.re1 h0 af) ae) ?_
 rintro e1 a1 W1 ⟨rfl,gB,Ur⟩
 obtain⟨b1,b2,b3⟩:=bJ.un1 h0 (O6 o1) (k':=1000000*stB.nx) Ur
 have nU:=b2.same _ _ o6 ae
 refine⟨_,run_beginRound nU ae,?_⟩
 have aoz:R.l<W1.heap.size:=(jO.1 nU).1
 have et:=b1.wx (WX.putObj (.loop {tk R.nf R.a0.tmps R.p R.iT R.bd R.D none with state:= .busy}) nU ae o5)
 refine wpIn_mono (F:=gx (some R.l)) (hB (({F with n:=R.n0,ds:=[],rd:=some R.l}:c8).re _ gB 1) ae (bF _) (.inr ok.Up) [] gB _ _ (bJ.re1 (k:=1000000*stB.nx) et af) ae) ?_
 rintro e2 a2 W2 ⟨Nt,gC,nx',I6,Us⟩
 obtain⟨c1,c2,c3⟩:=bJ.un1 et (O6 o1) (k':=1000000*nx') Us
 have p6:=c2.same _ _ (World.putObj_heap_same (o:= .loop {tk R.nf R.a0.tmps R.p R.iT R.bd R.D none with state:= .busy}) aoz) ae
 have aoA:R.l<W2.heap.size:=(jO.1 p6).1
 have tL:∀pd:Option Code,pd=om bo xid→R.O pd F [] (W2.putObj R.l (.loop (tk R.nf R.a0.tmps R.p R.iT R.bd R.D pd))):=by
  intro pd _;refine⟨o1,o2,o3,ae,o5,World.putObj_heap_same aoA,λD' Fp=>?_⟩;have aN:D'≠R.l:=λe=>ok.NF (e▸Fp)
  rw[World.putObj_heap_other aN];refine c2.same _ _ ?_ ae;rw[World.putObj_heap_other aN];exact b2.same _ _ (o7 D' Fp) ae
 have adv:=run_endRound (P:=P) (om bo xid) p6
 have hw:∀o',bJ {F with n:=R.n0,ds:=[],rd:=some R.l} (·<1000000*nx') (St.kn ⟨[],Mo,nx',[]⟩) gC (W2.putObj R.l o') a2:=λo'=>c1.wx (WX.putObj o' p6 ae o5)
 have adw:∀(w:World),w=W2.putObj R.l (.loop (tk R.nf R.a0.tmps R.p R.iT R.bd R.D (om bo xid)))→Rr (.returned (.bool (om bo xid).isNone)) w:=by
  rintro w rfl;have:(om bo xid).isNone=bo:=by unfold om;cases bo<;>rfl
  rw[this];exact hR gC _ nx' a2 I6 (hw _) (b3.H.trans c3.H) ⟨KeepsOthers.refl _,tL _ ae⟩
 subst Nt
 cases bo with
 |true=>exact⟨_,_,adv,adw _ ae⟩
 |false=>exact⟨_,_,adv,adw _ ae⟩
def bJ.restrict{F:c8}{K K':Nat→Prop}{σ:Kn}{g:Gh}{W:World}{a:Act}(h:bJ F K σ g W a)(h1:∀k x,σ k=some x→∀id∈x.aD,K' id)(h2:∀id x,σ (.m id)=some x→K' id)(h3:∀id,id<F.k0→K' id):bJ F K' σ g W a:=
 ⟨h.size,h.defers,h.gw,h.c9,h.inj,h1,h2,h.sub,h.below,h.le,h.fresh,λid al=>⟨h3 id al,(h.iu id al).2⟩⟩
def aoB(ok:R.Ok){n:Nat}{ops:Array Oper}{st st1 Ut:St}{id i d j x:Nat}{o:Oper}{di:Array TypeId}(ho:ops[i]? =some o)(aoC:o.dst=some d)(b9:o.op= .call ⟨.value (.tmp j),#[.tmp x],di⟩)
  (Q4:o.guard=none∨∃q want tg,o.guard=some (q,want)∧wD ops.toList q=some tg∧ao tg st1.sl=some (.c (.B want)))
  (pre:SG P n ops st.nx 0 st i st1) {v:AV} (hj:ao j st1.sl=some (.c (.V (.func (.yield R.l) #[] #[])))) (hx:ao x st1.sl=some v) (Uq:v.aD=[]) (aV:d<n)
  {M Mo:List (Nat×aJ)} (qi:st1.mem=M) (NG:ao 0 M=some (.fQ 0 [] R.caps)) (hgo:ao 0 Mo=some (.fQ 0 [] R.caps))
  {slk:List (Nat×AV)} (xf:∀t u,ao t slk=some u→ao t st1.sl=some u∧t≠d∧(u.aD=[]∨(∀g g' val,dt g R.caps R.ws→bP g u val→dt g' R.caps R.ws→bP g' u val)∧∀id∈u.aD,id<1000000*st.nx))
  (yO:∀id b,ao id Mo=some b→id<1000000*st.nx∧∀j∈b.aD,j<1000000*st.nx) (eS:1≤st.nx) (hi:ops.size≤1000)
  {xid:Nat} {stB:St} {nxr:Nat} {bo:Bool} (Y8:st.nx+1≤nxr) (HH:1≤stB.nx) (Je:∀t v,ao t R.S0=some v→∀id∈v.aD,id<1000000*st.nx)
  (hA:TJ P R.n0 R.iT ⟨(R.p,v)::R.S0,M,nxr,[]⟩ xn (λF e a W=>e= .normal∧∃g,bJ (F.dr []) (kb stB) stB.kn g W a))
  (hB:TJ P R.n0 R.bd stB xn (Jd bo xid Mo)) {gd1:List (Nat×Bool)}
  (suf:SG P n ops st.nx (i+1) ⟨(d,.c (.B bo))::slk,Mo,st.nx,gd1⟩ ops.size Ut) {Q:fA} (cont:gH n .normal ⟨Ut.sl,Ut.mem,st.nx+1,[]⟩ (R.O (om bo xid)) Q):
  TJ P n (.region id ops false) st (R.O none) Q:=by
 intro F hF gM fF ds g W a hh hO
 obtain⟨o1,o2,o3,o4,o5,o6,o7⟩:=hO
 subst o4
 have adx:zv F.rd ops:=fF.region
 have as5:i<ops.size:=(jO.1 ho).1
 have bt:(gx F.rd:Fence)=gx none:=by rw[o3]
 rw[bt]
 refine wpIn_region ?_
 have aoF:List.range ops.size=List.range' 0 (i-0)++(i::(List.range' (i+1) (ops.size-(i+1))++[])):=by rw[kp,List.range_eq_range',←List.range'_succ];have:ops.size-(i+1)+1=ops.size-i:=af;rw[this];have:=List.range'_append (s:=0) (m:=i-0) (n:=ops.size-i) (step:=1);simp only[iZ,eR]at this;rw[A9]at this⊢;rw[this];congr 1;omega
 rw[aoF]
 have xg:=pre.sound ((F.dr []).re W g (1000000*st.nx)) hF adx
 have aoG:(gx ((F.dr []).re W g (1000000*st.nx)).rd:Fence)=gx none:=bt
 rw[aoG]at xg
 refine xg _ _ g W a (bJ.re (k:=1000000*st.nx) hh) ?_
 intro g1 W1 a1 hh1
 obtain⟨xo,hK1,hG1⟩:=bJ.un (k:=1000000*st.nx) hh hh1
 rw[wpOpsIn_cons]
 unfold wpOpIn
 rw[ho]
 have aoI:Region.wanted o (yielded ops a1.tmps)=true:=by
  unfold Region.wanted;rcases Q4 with hg|⟨q,want,tg,hg,aoJ,hb⟩
  ·rw[hg]
  ·rw[hg];have:=xo.gw tg (.c (.B want)) (by simp[St.kn,hb]);simp only[PK aoJ this];simp
 simp only[aoI,cM]
 refine⟨λ_ _=>trivial,?_⟩
 have aoK:a1.tmps.getD j undef= .func (.yield R.l) #[] #[]:=xo.gw j (.c (.V (.func (.yield R.l) #[] #[]))) (by simp[St.kn,hj])
 have hvx:bP g1 v (a1.tmps.getD x undef):=xo.gw x v (by simp[St.kn,hx])
 have adz:=hK1.same _ _ o6 ae
 have hex:(o.semAt (gx none).round a1.eval).run P W1= .ok (.round R.l R.nf (R.a0.tmps.setIfInBounds R.p (a1.tmps.getD x undef)) R.iT R.bd) W1:=by
  show(execOp a1.eval o).run P W1=_;have hy:=run_yield (P:=P) (args:= #[a1.tmps.getD x undef]) adz ae;rw[execOp,b9];have e1:a1.eval (.tmp j)= .func (.yield R.l) #[] #[]:=aoK;have e3:a1.eval (.tmp x)=a1.tmps.getD x undef:=rfl;have e2:(#[Operand.tmp x]:Array Operand).map a1.eval= #[a1.tmps.getD x undef]:=by simp[e3]
  simp only[resolve,e1,e2,Deferred.ofValue,pure_bind,invoke];simpa[tk]using hy
 rw[hex]
 simp only[Oper.uponIn_round]
 refine⟨λhh=>by simp[gx,Fence.wide]at hh,?_⟩
 have jz:St.kn ⟨st1.sl,M,st1.nx,st1.gd⟩=st1.kn:=by rw[←qi]
 have adA:bJ (F.dr []) (·<1000000*st.nx+1000*i) (St.kn ⟨st1.sl,M,st1.nx,st1.gd⟩) g1 W1 a1:=by rw[jz];exact xo
 refine aov (Mo:=Mo) (bo:=bo) (xid:=xid) ok af HH hA hB adA af NG (λt w hw id al=>kl (Je t w hw id al) af) hvx Uq ⟨o1,o2,o3,ae,o5,adz,λD hD=>hK1.same _ _ (o7 D hD) ae⟩ ?_
 intro g2 W2 nx' a' I6 hC aoM Uu
 obtain⟨_,Uu⟩:=Uu
 have aoN:=adA.ND o1 o2 (caps:=R.caps) (by simp[St.kn,NG])
 have aoO:=hC.ND o1 o2 (caps:=R.caps) (by simp[St.kn,hgo])
 simp only
 rw[aoC]
 have B7:bJ (F.dr []) (·<1000000*st.nx+1000*(i+1)) (St.kn ⟨(d,.c (.B bo))::slk,Mo,st.nx,gd1⟩) g2 W2 {a1 with tmps:=a1.tmps.setIfInBounds d (.bool bo)}:=by
  have hC':bJ {F with n:=R.n0,ds:=[],rd:=some R.l} (·<1000000*st.nx+1000*(i+1)) (St.kn ⟨[],Mo,nx',[]⟩) g2 W2 a':=by
   refine hC.restrict (λkey y hy id al=>?_) (λid y hy=>?_) (λid al=>?_)
   ·cases key with
    |s t=>simp[St.kn,ao]at hy
    |m q=>
     simp only[St.kn,cq]at hy
     obtain⟨b,hb,e⟩:=hy
     subst e
     have:=(yO q b hb).2 id al
     omega
   ·simp only[St.kn,cq]at hy;obtain⟨b,hb,e⟩:=hy;have:=(yO id b hb).1;omega
   ·have:id<F.k0:=al;omega
  have lK:=bJ.frame (sl':=(d,.c (.B bo))::slk) (M':=Mo) (nx':=st.nx) (gd':=gd1) (n':=F.n) (ds':=[]) (rd':=F.rd) (a':={a1 with tmps:=a1.tmps.setIfInBounds d (.bool bo)}) hC' (by have:=xo.size;simpa[c8.dr]using this) xo.defers (λt w hw=>by
   simp only[ao]at hw;split at hw
   ·rename_i e;cases hw;subst e;have cR:d<a1.tmps.size:=by rw[xo.size];show d<F.n;rw[hF];exact aV
    refine⟨by show _=_;simp[cR],λid al=>by cases al⟩
   ·rename_i e;obtain⟨s1,s2,s3⟩:=xf t w hw;have nU:bP g1 w (a1.tmps.getD t undef):=xo.gw t w (by simp[St.kn,s1]);have mV:(a1.tmps.setIfInBounds d (.bool bo)).getD t undef=a1.tmps.getD t undef:=by have:=nN (xs:=a1.tmps) (a:=Value.bool bo) e;simp[this]
    rw[mV];rcases s3 with s3|⟨s3,s4⟩
    ·refine⟨?_,λid al=>by rw[s3]at al;cases al⟩;have h5:=nU.hJ s3 aoM g2.γ;exact h5
    ·exact⟨s3 g1 g2 _ aoN nU aoO,λid al=>by have:=s4 id al;omega⟩) (λid b hb=>hb)
  exact lK
 have adB:=suf.sound ((F.dr []).re W2 g2 (1000000*st.nx+1000*(i+1))) hF adx
 have aoQ:(gx ((F.dr []).re W2 g2 (1000000*st.nx+1000*(i+1))).rd:Fence)=gx none:=bt
 rw[aoQ]at adB
 refine adB _ _ g2 W2 _ (bJ.re (k:=1000000*st.nx+1000*(i+1)) B7) ?_
 intro g3 W3 a3 hh3
 obtain⟨hA3,hK3,hG3⟩:=bJ.un (k:=1000000*st.nx+1000*(i+1)) B7 hh3
 exact cont F hF gM [] g3 W3 a3 (hA3.weaken (λid al=>by have:id<1000000*st.nx+1000*ops.size:=al;show id<1000000*(st.nx+1);omega)) (R.adt _ F [] W2 W3 hK3 Uu)
end
def OM:vR:=λF ds W=>F.k0=0∧F.rd=none∧∃mk:List Nat,ds=mk.map tl∧(∀D∈mk,W.heap[D]? =some (.deferred (some []))∧F.w0.heap.size≤D)∧mk.Nodup
def NH:AM OM:=λ_ _ _ _ hk ⟨h1,h2,mk,h3,h4,h5⟩=>⟨h1,h2,mk,h3,λD hD=>⟨hk.same _ _ (h4 D hD).1 ae,(h4 D hD).2⟩,h5⟩
def pL.Q(R:pL)(bo:Bool)(xid:Nat)(Mo:List (Nat×aJ)):fA:=λF e a W=>(e= .normal∨e= .ret)∧(∃g nx',1≤nx'∧bJ (F.dr []) (·<1000000*nx') (St.kn ⟨[],Mo,nx',[]⟩) g W a)∧R.O (om bo xid) F [] W
def qV(Sc:List (Nat×C)):List (Nat×AV):=Sc.map λs=>(s.1,.c s.2)
def rZ(Sc:List (Nat×C)):List (Bool×List C):=Sc.map λs=>(false,[s.2])
def NI{t:Nat}{v:AV}:∀{Sc:List (Nat×C)},ao t (qV Sc)=some v→∃c,v= .c c∧ao t Sc=some c
 |[],h=>by simp[qV,ao]at h
 |s::Sc,h=>by
  simp only[qV,jF,ao]at h⊢;by_cases e:s.1=t
  ·rw[aw e]at h⊢;cases h;exact⟨s.2,ae,ae⟩
  ·rw[aq e]at h⊢;exact NI h
def adC{g:Gh}:∀{cs ds:List (Bool×List C)}{us vs:List Value},dt g cs us→dt g ds vs→dt g (cs++ds) (us++vs)
 |[],_,_,_,h,h'=>by simp only[dt]at h;subst h;exact h'
 |s::cs,ds,us,vs,h,h'=>by obtain⟨v,r,rfl,h1,h2⟩:=h;exact⟨v,r++vs,ae,h1,adC h2 h'⟩
def adD{g:Gh}{f:Nat→Value}:∀{Sc:List (Nat×C)},(∀s∈Sc,dk g s.2 (f s.1))→dt g (rZ Sc) (Sc.map λs=>f s.1)
 |[],_=>rfl
 |s::Sc,h=>⟨_,_,ae,h s be,adD λx hx=>h x lC⟩
def Uv{g:Gh}{f:Nat→Value}{ds:List (Bool×List C)}{vs:List Value}:∀{Sc:List (Nat×C)},dt g (rZ Sc++ds) ((Sc.map λs=>f s.1)++vs)→(∀s∈Sc,dk g s.2 (f s.1))∧dt g ds vs
 |[],h=>⟨λs hs=>(by cases hs),h⟩
 |s::Sc,h=>by
  obtain⟨v,r,e,h1,h2⟩:=h;simp only[jF,mQ,OV]at e;obtain⟨rfl,rfl⟩:=e;obtain⟨i1,i2⟩:=Uv h2;refine⟨λx hx=>?_,i2⟩;rcases dx.1 hx with rfl|hx
  ·exact h1
  ·exact i1 x hx
def AO{α:Type}{t:Nat}{v:α}:∀{l:List (Nat×α)},ao t l=some v→(t,v)∈l
 |[],h=>by simp[ao]at h
 | (k,w)::l,h=>by
  simp only[ao]at h;split at h
  ·rename_i e;cases h;subst e;simp
  ·exact v8 _ (AO h)
section
variable{P:Program}
def aoU{n0 nI:Nat}{Jf:Operand}{p:Nat}{iT bd:Code}{st:St}{Q:fA}{cid f:Nat}{fn:Func}{cb:Code}{capsI:List (Bool×List C)}{wsI:List AV}{Sc:List (Nat×C)}{M Mo:List (Nat×aJ)}{bo:Bool}{xid:Nat}
  (hg:st.ev Jf=some (.c (.X cid))) (ru:ao cid st.mem=some (.fQ f [] capsI)) (kX:wJ capsI=some wsI) (iv:P.funcs[f]? =some fn) (cw:fn.body=some cb) (hnI:fn.ntmps=nI) (sM:(fn.name != "runtime.NumGoroutine")=true) (aoW:fn.results= #[]) (hlen:wsI.length+1≤nI)
  (eS:1≤st.nx) (hp:p<n0) (Uo:rF iT=true) (Up:rF bd=true)
  (NJ:∀s∈Sc,ao s.1 st.sl=some (.c s.2)) (pD:ao p (qV Sc)=none) (hz:∀t v,ao t st.sl=some v→0∉v.aD) (hM:∀id b,ao id M=some b→ao id st.mem=some b) (Fs:∀id b,ao id st.mem=some b→id≠0∧0∉b.aD)
  (yO:∀id b,ao id Mo=some b→id≠0∧id<1000000*st.nx∧∀j∈b.aD,j<1000000*st.nx)
  (hI:∀R:pL,R.Ok→R.n0=n0→R.S0=qV Sc→R.caps=rZ Sc++capsI→R.p=p→R.iT=iT→R.bd=bd→TJ P nI cb ⟨(0,.c (.V (.func (.yield R.l) #[] #[])))::kZ 1 wsI,(0,.fQ 0 [] (rZ Sc++capsI))::M,st.nx,[]⟩ (R.O none) (R.Q bo xid ((0,.fQ 0 [] (rZ Sc++capsI))::Mo)))
  (hk:gH n0 (if bo then .normal else .exit xid) ⟨qV Sc,Mo,st.nx,[]⟩ OM Q):TJ P n0 (.rangeFunc Jf ⟨[p]⟩ iT bd) st OM Q:=by
 intro F hF gM fF ds g W a hh hO
 obtain⟨ok0,ord,mk,rfl,ri,aoX⟩:=hO
 obtain⟨sl,mem,nx,gd⟩:=st
 simp only at ru eS NJ hz hM Fs yO hI hk
 have dR:a.eval Jf=g.γ cid:=gy hh _ Jf _ hg (fY _ Jf)
 have jz:(St.kn ⟨sl,mem,nx,gd⟩) (.m cid)=some (.b (.fQ f [] capsI)):=by simp[St.kn,ru]
 obtain⟨us0,wv,hγ,Uw,EF⟩:=hh.c9 cid _ jz
 have Uw:us0=[]:=Uw
 subst Uw
 have zy:=KU kX EF
 have Ux:∀j∈fE capsI,j<1000000*nx∧j≠0:=λj hj=>by
  have h1:j∈(aJ.fQ f [] capsI).aD:=by simpa[aJ.aD,fE]using hj
  exact⟨hh.aD (.m cid) _ jz j h1,λe=>(Fs cid _ ru).2 (e▸h1)⟩
 have aoZ:ml P f=true:=by simp[ml,iv,cw,sM]
 have ao0:∀s∈Sc,dk g s.2 (a.tmps.getD s.1 undef):=λs hs=>hh.gw s.1 (.c s.2) (by simp[St.kn,NJ s hs])
 have Uy:∀s∈Sc,∀id∈s.2.aD,id<1000000*nx∧id≠0:=λs hs id al=>⟨hh.aD (.s s.1) (.v (.c s.2)) (by simp[St.kn,NJ s hs]) id al,λe=>hz s.1 _ (NJ s hs) (e▸al)⟩
 rw[ord]
 refine wpIn_rangeFunc (F:=gx none) (λnf _=>?_)
 obtain⟨R,hR⟩:∃R:pL,R={n0:=n0,a0:=a,S0:=qV Sc,caps:=rZ Sc++capsI,ws:=(Sc.map λs=>a.tmps.getD s.1 undef)++wv,l:=W.heap.size+1,D:=W.heap.size,nf:=nf,p:=p,iT:=iT,bd:=bd,ms:=W.heap.size::mk}:=⟨_,ae⟩
 obtain⟨W1,s8⟩:∃W1,(W.alloc (.deferred (some []))).alloc (.loop {state:= .ready,pending:=none,fn:=nf,tmps:=a.tmps,params:= #[p],assign:=iT,body:=bd,defers:=W.heap.size})=W1:=⟨_,ae⟩
 refine⟨W.heap.size+1,[tl W.heap.size],W1,{target:= .fn (.func f) wv.toArray,args:= #[.func (.yield (W.heap.size+1)) #[] #[]]},W1,f,#[.func (.yield (W.heap.size+1)) #[] #[]]++wv.toArray,W1,?_,?_,λ_ _=>trivial,Qo aoZ,λhh=>by simp[gx,Fence.wide]at hh,?_⟩
 ·rw[←s8];exact run_enterLoop_outer nf a.tmps #[p] iT bd
 ·simp only[resolve,dR,hγ,Deferred.ofValue];simp[Act.eval]
 have wy:WX F.w0.heap.size W W1:=by rw[←s8];exact(WX.alloc _ _ _).trans (WX.alloc _ _ _)
 have hB:F.w0.heap.size≤W.heap.size:=hh.below.size
 have hD1:W1.heap[W.heap.size]? =some (.deferred (some [])):=by rw[←s8];exact(Below.heap_alloc _ _ _ be).trans (World.alloc_heap_new W _)
 have hL1:W1.heap[W.heap.size+1]? =some (.loop (tk nf a.tmps p iT bd W.heap.size none)):=by rw[←s8];have:=World.alloc_heap_new (w:=W.alloc (.deferred (some []))) (.loop {state:= .ready,pending:=none,fn:=nf,tmps:=a.tmps,params:= #[p],assign:=iT,body:=bd,defers:=W.heap.size});rwa[World.size_alloc]at this
 have adG:∀D∈W.heap.size::mk,W1.heap[D]? =some (.deferred (some [])):=by
  intro D hD;rcases dx.1 hD with rfl|hD
  ·exact hD1
  ·have h1:=(ri D hD).1;rw[←s8];exact(Below.heap_alloc _ _ _ (by have:=(jO.1 h1).1;simp;omega)).trans ((Below.heap_alloc _ _ _ (jO.1 h1).1).trans h1)
 have NF:W.heap.size+1∉W.heap.size::mk:=by intro hc;have:=adG _ hc;rw[hL1]at this;cases this
 have ao2:dt g R.caps R.ws:=by rw[hR];exact adC (adD (f:=λt=>a.tmps.getD t undef) ao0) EF
 have CP:∀id∈fE R.caps,id≠0∧id<1000000*nx:=by
  rw[hR];have key:∀{L:List (Nat×C)},(∀s∈L,∀id∈s.2.aD,id<1000000*nx∧id≠0)→∀id∈fE (rZ L++capsI),id≠0∧id<1000000*nx:=by
   intro L;induction L with
   |nil=>intro _ id al;exact⟨(Ux id al).2,(Ux id al).1⟩
   |cons s L ih=>
    intro hL id al
    simp only[rZ,jF,mQ,fE,bX]at al
    rcases al with al|al
    ·have:id∈s.2.aD:=by simpa[cA]using al
     exact⟨(hL s be id this).2,(hL s be id this).1⟩
    ·exact ih (λx hx=>hL x lC) id al
  exact key Uy
 have Us:=bJ.ghost (k:=1000000*nx) (hh.wx (W':=W1) wy) (nx':=nx) (gd':=[]) af ok0 hz Fs ao2 CP
 have Lk:ao 0 mem=none:=by
  cases h:ao 0 mem with
  |none=>rfl
  |some b=>exact absurd ae (Fs 0 b h).1
 have ok:R.Ok:=by
  rw[hR];refine⟨hp,?_,NF,Uo,Up,λg' bU t v hv=>?_,pD⟩
  ·have:=hh.size;simpa[c8.dr,hF]using this
  ·obtain⟨c,rfl,hc⟩:=NI hv;exact(Uv (f:=λt=>a.tmps.getD t undef) bU).1 (t,c) (AO hc)
 have iN:wv.length=wsI.length:=zK zy
 have kv:(#[.func (.yield (W.heap.size+1)) #[] #[]]++wv.toArray:Array Value)=(.func (.yield (W.heap.size+1)) #[] #[]::wv).toArray:=be
 rw[kv]
 refine callsIn_of_wp (F:=gx none) iv cw ah ?_
 have xo:bJ ({F with n:=nI,ds:=[],rd:=none,k0:=1,γ0:=λ_=>nM R.ws}:c8) (·<1000000*nx) (St.kn ⟨(0,.c (.V (.func (.yield R.l) #[] #[])))::kZ 1 wsI,(0,.fQ 0 [] (rZ Sc++capsI))::M,nx,[]⟩) (g.new 0 (nM R.ws)) W1 {tmps:=(.func (.yield (W.heap.size+1)) #[] #[]::wv).toArray++Array.replicate (fn.ntmps-(.func (.yield (W.heap.size+1)) #[] #[]::wv).toArray.size) undef,defers:=[]}:=by
  refine bJ.frame (F:={F.dr (mk.map tl)with k0:=1,γ0:=λ_=>nM R.ws}) Us (by simp[iN,hnI];omega) ae (λt v hv=>?_) (λid b hb=>?_)
  ·simp only[ao]at hv;split at hv
   ·rename_i e;cases hv;subst e;refine⟨?_,λid al=>by cases al⟩;show _=_;rw[hR,v5,AT be];simp
   ·rename_i e;obtain⟨h1,u,h2,h3,h4⟩:=pj wsI wv 1 zy t v hv;have bh:t-1<wv.length:=(v7.1 h2).1;have adH:∀id∈v.aD,id<1000000*nx∧id≠0:=λid al=>Ux id (XJ kX id (h4 id al))
    refine⟨?_,λid al=>(adH id al).1⟩;rw[v5,AT cO];have mV:(.func (.yield (W.heap.size+1)) #[] #[]::wv).toArray[t]? =some u:=by rw[JR,show t=(t-1)+1 by omega,C4,h2]
    rw[mV];have jr:iH (λid=>id≠0) g (g.new 0 (nM R.ws)):=⟨cC.refl _,λid al=>by simp[Gh.new,al]⟩;exact bP.mono jr (λid al=>(adH id al).2) h3
  ·simp only[ao]at hb⊢;split at hb
   ·rename_i e;cases hb;subst e;rw[hR];simp
   ·rename_i e;rw[aq e];exact hM id b hb
 have hO1:R.O none ({F with n:=nI,ds:=[],rd:=none,k0:=1,γ0:=λ_=>nM R.ws}:c8) [] W1:=by
  refine⟨ae,ae,ae,ae,?_,?_,?_⟩
  ·rw[hR];show F.w0.heap.size≤W.heap.size+1;omega
  ·rw[hR];exact hL1
  ·rw[hR];exact adG
 have bZ:=hI R ok (by rw[hR]) (by rw[hR]) (by rw[hR]) (by rw[hR]) (by rw[hR]) (by rw[hR]) ({F with n:=nI,ds:=[],rd:=none,k0:=1,γ0:=λ_=>nM R.ws}:c8) ae (bF _) (.inl ae) [] (g.new 0 (nM R.ws)) W1 _ xo hO1
 refine wpIn_mono (F:=gx none) bZ ?_
 rintro e a' W' ⟨he,⟨g',nx',I6,NK⟩,hO'⟩
 obtain⟨_,_,_,_,_,adI,adJ⟩:=hO'
 have Ll:a'.defers=[]:=NK.defers
 have adK:W'.heap[W.heap.size+1]? =some (.loop (tk nf a.tmps p iT bd W.heap.size (om bo xid))):=by rw[hR]at adI;exact adI
 have ao5:∀D∈W.heap.size::mk,W'.heap[D]? =some (.deferred (some [])):=by rw[hR]at adJ;exact adJ
 have hw4:WX F.w0.heap.size W' (W'.putObj (W.heap.size+1) (.loop {tk nf a.tmps p iT bd W.heap.size (om bo xid)with state:= .exhausted})):=WX.putObj _ adK ae af
 have B7:=NK.wx hw4
 have hgr:dt g' R.caps R.ws:=B7.ND (caps:=R.caps) ae ae (by rw[hR];simp[St.kn,ao])
 have lK:bJ (F.dr ((W.heap.size::mk).map tl)) (·<1000000*nx) (St.kn ⟨qV Sc,Mo,nx,[]⟩) g' (W'.putObj (W.heap.size+1) (.loop {tk nf a.tmps p iT bd W.heap.size (om bo xid)with state:= .exhausted})) {a with defers:=[tl W.heap.size]++a.defers}:=by
  have h5:bJ ({F with n:=F.n,ds:=(W.heap.size::mk).map tl,rd:=F.rd,k0:=1,γ0:=λ_=>nM R.ws}:c8) (λid=>id<1000000*nx'∨id<1000000*nx) (St.kn ⟨qV Sc,(0,.fQ 0 [] (rZ Sc++capsI))::Mo,nx,[]⟩) g' (W'.putObj (W.heap.size+1) (.loop {tk nf a.tmps p iT bd W.heap.size (om bo xid)with state:= .exhausted})) {a with defers:=[tl W.heap.size]++a.defers}:=by refine bJ.frame (B7.weaken (λid al=> .inl al)) (by have:=hh.size;simpa[c8.dr]using this) (by have:=hh.defers;simp only[this];rfl) (λt v hv=>?_) (λid b hb=>hb);obtain⟨c,rfl,hc⟩:=NI hv;have adM:=AO hc;have h6:=(Uv (f:=λt=>a.tmps.getD t undef) (by rw[hR]at hgr;exact hgr)).1 (t,c) adM;exact⟨h6,λid al=> .inr (Uy (t,c) adM id al).1⟩
  have h6:=h5.restrict (K':=(·<1000000*nx)) (λkey y hy id al=>?_) (λid y hy=>?_) (λid al=>by have:id<1:=al;show id<1000000*nx;omega)
  ·have h7:=bJ.frame (sl':=qV Sc) (M':=Mo) (nx':=nx) (gd':=[]) (n':=F.n) (ds':=(W.heap.size::mk).map tl) (rd':=F.rd) (a':={a with defers:=[tl W.heap.size]++a.defers}) h6 h6.size h6.defers (λt v hv=>⟨h6.gw t v JF,λid al=>h6.aD (.s t) (.v v) JF id al⟩) (λid b hb=>by simp only[ao];have:id≠0:=(yO id b hb).1;rw[aq (λe=>this e.symm)];exact hb);exact⟨h7.size,h7.defers,h7.gw,h7.c9,h7.inj,h7.aD,h7.fy,h7.sub,h7.below,h7.le,h7.fresh,λid al=>by have:id<F.k0:=al;omega⟩
  ·cases key with
   |s t=>
    simp only[St.kn,cq]at hy
    obtain⟨w,hw,e⟩:=hy
    subst e
    obtain⟨c,rfl,hc⟩:=NI hw
    exact(Uy (t,c) (AO hc) id al).1
   |m q=>
    simp only[St.kn,ao,cq]at hy
    obtain⟨w,hw,e⟩:=hy
    subst e
    split at hw
    ·cases hw;have:id∈fE R.caps:=by rw[hR];simpa[Info.aD,aJ.aD,fE]using al
     exact(CP id this).2
    ·exact(yO q w hw).2.2 id al
  ·simp only[St.kn,ao,cq]at hy;obtain⟨w,hw,e⟩:=hy;split at hw
   ·rename_i e2;subst e2;show 0<1000000*nx;omega
   ·exact(yO id w hw).2.1
 have hOM:OM F ((W.heap.size::mk).map tl) (W'.putObj (W.heap.size+1) (.loop {tk nf a.tmps p iT bd W.heap.size (om bo xid)with state:= .exhausted})):=by
  refine⟨ok0,ord,W.heap.size::mk,ae,λD hD=>⟨?_,?_⟩,?_⟩
  ·have aN:D≠W.heap.size+1:=λe=>NF (e▸hD)
   rw[World.putObj_heap_other aN];exact ao5 D hD
  ·rcases dx.1 hD with rfl|hD
   ·exact hB
   ·exact(ri D hD).2
  ·refine zc.2 ⟨λhc=>?_,aoX⟩;have:=(jO.1 (ri _ hc).1).1;omega
 have adN:rangePost (gx none) 0 P (W.heap.size+1) (Q F) {a with defers:=[tl W.heap.size]++a.defers} (.returned (.tuple #[])) W':=by
  refine⟨om bo xid,_,run_endLoop (P:=P) adK (by unfold om;cases bo<;>simp[tk]),?_⟩;have hq:=hk F hF gM _ g' _ _ lK hOM;unfold om;cases bo with
  |true=>exact hq
  |false=>exact wpIn_exit hq
 have MA:(results fn a'.tmps).run P W'= .ok (.tuple #[]) W':=by simp[results,aoW]
 rcases he with rfl|rfl
 ·exact⟨Ll,_,MA,adN⟩
 ·exact⟨Ll,_,MA,adN⟩
end
section
variable{P:Program}{tt:TT}
def adO{n:Nat}{ops:Array Oper}{draw:Bool}{nx i:Nat}{o:Oper}{os:List Oper}{st st1:St}{ks:List Ks}{k:Ks}{Q:St→Prop}{rd:List (Key×Info)}{wr:List (Key×Option Info)}
  (hs:ops[i]? =some o→zw P n ops i rd wr (sB (λi=>1000000*nx+1000*i) i)) (bt:∀kx∈rd,st.kn kx.1=some kx.2) (eP:st1.kn=dC st.kn wr) (fX:∀x∈dO rd,x∈k.1) (dL:∀x∈fe wr,x∈k.2) (h:RG P n ops draw nx (i+1) os st1 (ks++[k]) Q):RG P n ops draw nx i (o::os) st ks Q:=by
 intro xR
 have ho:ops[i]? =some o:=by have:=az (λl=>l[0]?) xR;simpa[tv]using this
 have PN:ops.toList.drop (i+1)=os:=by rw[←xF,xR];rfl
 have dc:=hs ho
 obtain⟨ds,st',hl,h1,h2,h3,h4,rj,h5,h6⟩:=h PN
 refine⟨(rd,wr)::ds,st',by simp[hl],?_,?_,?_,h4,rj,?_,h6⟩
 ·intro j hj;cases j with
  |zero=>simpa using dc
  |succ j=>
   have:=h1 j yZ
   rw[show i+(j+1)=i+1+j by omega]
   simpa using this
 ·intro j hj kx aS;cases j with
  |zero=>simp only[xx]at aS;simpa[wE]using bt kx aS
  |succ j=>
   simp only[FY]at aS
   have:=h2 j yZ kx aS
   rw[eP]at this
   simpa[wE]using this
 ·rw[h3,eP];simp[wE]
 ·intro hd;obtain⟨cj,⟨lJ,uX⟩,Bp⟩:=h5 hd;refine⟨k::cj,⟨by simp[lJ],λj hj ry=>?_⟩,by rwa[nj,List.singleton_append]at Bp⟩;cases j with
  |zero=>exact⟨fX,dL⟩
  |succ j=>simpa using uX j yZ (by simpa using ry)
def ao8{n c1 k k':Nat}{ops:Array Oper}{i:Nat}{o:Oper}(ho:ops[i]? =some o)(hg:o.guard=none){d:Nat}(hd:o.dst=some d)(aV:d<n){f:FuncId}{args:Array Operand}{di:Array TypeId}(b9:o.op= .call ⟨.value (.func f),args,di⟩)
  {st:St} {vs:List AV} {r:AV} {fI:List (Nat×aJ)} (hv:kB st args.toList=some vs) (hm:fH vs=[]) (hf:CX P f vs [] k r fI k') (du:k'≤c1) (dM:∀id∈r.aD,k≤id) (u7:∀id b,ao id fI=some b→∀j∈b.aD,k≤j):
  zw P n ops i (args.toList.flatMap (dQ st)) ((.s d,some (.v r))::tS k fI) (λid=>k≤id∧id<c1):=by
 intro F fW Q known σ g W a K dT aH bt hK
 have ja:=zH aH st _ _ hv bt
 have cR:d<a.tmps.size:=qY
 have hc:=ahS hf (λid al=>by rw[hm]at al;cases al) (λid b h=>by simp[ao]at h) (λid al=> .inl (dM id al)) (λid b h=> .inr λj hj=> .inl (u7 id b h j hj)) aH (λid al=>dT id ⟨al.1,kl al.2 du⟩) ja (λid al=>by rw[hm]at al;cases al) (λid b h=>by simp[ao]at h) cR
 unfold wpOp
 simp only[ho,Region.wanted,hg,cM]
 refine .inl ?_
 unfold Oper.wp
 have hex:(execOp a.eval o).run P W= .ok (.enter f (args.map a.eval)) W:=by
  have cw:=hf.call;unfold ml at cw;rw[execOp,b9];cases iv:P.funcs[f]? with
  |none=>rw[iv]at cw;simp at cw
  |some fn=>
   rw[iv]at cw
   simp only[eQ,bne_iff_ne,ne_eq]at cw
   have h2:fn.body≠none:=by intro hb;rw[hb]at cw;simp at cw
   simp[resolve,Act.eval,Deferred.ofValue,invoke,callFunc,iv,cw.1,h2]
 rw[hex]
 simp only[Oper.upon]
 have iL:(args.map a.eval)=(args.toList.map a.eval).toArray:=vX
 rw[iL]
 refine hc.mono ?_
 rintro e W' ⟨v,g',rfl,h'⟩
 simp only[hd]
 refine hK g' W' _ (h'.weaken (λid al=>?_))
 rcases al with al|al
 ·exact .inl al
 ·exact .inr ⟨al.1,kl al.2 du⟩
def adP(P:Program)(fn:Func)(r:AV):fA:=λF e a W=>(∀b,¬F.own b)→bodyPostM (gx none) 0 P fn (KC F.w0 F.H0 r) e a W
def ao9{n:Nat}{st:St}(aT:cL P tt=true){fn:Func}{rs:List ResultVar}{r' r:AV}(hr:tN tt st rs=some r')(hle:au r' r)(fG:fn.results=rs.toArray:=by rfl)(hm:r.aD=[]:=by rfl):gH n .ret st OM (adP P fn r):=by intro F hF gM ds g W a h hO sL;obtain⟨_,_,mk,rfl,ri,fF⟩:=hO;have hd:a.defers=mk.map tl:=h.defers;show LeavesInM (gx none) 0 P fn a.tmps (KC F.w0 F.H0 r) a.defers .returning W;rw[hd];refine adi (B:=F.w0.heap.size) mk W ri fF ?_;intro W' hx;have h2:=h.wx (W':=W') hx;obtain⟨u,hu,bU⟩:=Bv (P:=P) aT h2 fG hr;refine⟨u,hu,u,g.H,ae,?_,h2.le,λb o hb=>h2.fresh b o hb (sL b),h2.sub,⟨h2.below.os,h2.below.tape,h2.below.output,h2.below.size,λk hk=>h2.below.block k hk (sL k)⟩⟩;exact(hle.1 _ _ bU).hJ hm (cC.refl _) jb
def ao'{n nx:Nat}{f:FuncId}{fn:Func}{c:Code}{args:List AV}{r:AV}(hf:P.funcs[f]? =some fn)(hb:fn.body=some c)(hN:fn.ntmps=n)(hle:Nat.ble args.length n=true)(mm:fH args=[])(Bx:r.aD=[])(sM:(fn.name != "runtime.NumGoroutine")=true)
  (h:TJ P n c ⟨kZ 0 args,[],nx,[]⟩ OM (adP P fn r)):aG P f args r:=by
 refine⟨by simp[ml,hf,hb,sM],Bx,?_⟩
 intro H W vs eI bU
 refine callsIn_wide.1 (callsIn_of_wp_marks (n:=0) (F:=gx none) hf hb ah ?_)
 have hlen:=zK bU
 have hle:=cT hle
 refine wpIn_mono (F:=gx none) (h {w0:=W,H0:=H,n:=n} rfl (bK _) (.inl ae) [] ⟨H,jb⟩ W _ ⟨?_,ae,?_,?_,?_,?_,?_,eI,⟨ae,ae,ae,bF _,λ_ _ _=>rfl⟩,cC.refl _,λ_ _ _ _=>rfl,λ_ h=>absurd h (A3 _)⟩ ⟨ae,ae,[],ae,λD hD=>(by cases hD),List.nodup_nil⟩) (λe a W' hq=>hq (λ_ h=>h))
 ·simp[hN,c8.dr];omega
 ·intro t v ht;simp only[St.kn,cq]at ht;obtain⟨x,hx,he⟩:=ht;cases he;obtain⟨_,u,hu,hr,_⟩:=pj args vs 0 bU t v hx;have jh:vs[t]? =some u:=C1;have bh:t<vs.length:=(v7.1 jh).1;have:(vs.toArray++Array.replicate (fn.ntmps-vs.toArray.size) undef).getD t undef=u:=by rw[v5,AT FP];simp[jh]
  rw[this];exact hr
 ·intro id b e;simp[St.kn,ao]at e
 ·intro id b6 b b' k e;simp[St.kn,ao]at e
 ·intro k x e id al;cases k with
  |m j=>simp[St.kn,ao]at e
  |s t=>
   simp only[St.kn,cq]at e
   obtain⟨y,hy,he⟩:=e
   subst he
   obtain⟨_,u,_,_,h6⟩:=pj args vs 0 bU t y hy
   have:=h6 id al
   rw[mm]at this
   cases this
 ·intro id x e;simp[St.kn,ao]at e
end
end Go.El
namespace Go.El
open Go Go.Proofs
set_option maxHeartbeats 4000000 in
def apa(a b:List Int)(m:Int)(u v:Nat)(zX:u+v≤100000)(la:a.length≤1000)(lb:b.length≤1000)(Tz:a≠[])(TA:b≠[])(jq:0<m)(ha:∀i,aU u (a.getD i 0))(hb:∀i,aU v (b.getD i 0))(hm:aU (u+v) m):
  mY Tryz.prog 161 [cS .z a,cS .z b,aZ m] 44 .z (pH a b m):=by
 refine zS Tryz.func161 ae ae ae ae ak ?_
 have pa:=cX.2 Tz
 have pb:=cX.2 TA
 have k6:∀i,(iB a b i).length=a.length+b.length-1:=IL a b
 refine rr ae (rb (rm .z (a.length+b.length-1) ae ae ae ae ae ae (λg=>BG g) af ?_ ?_ (re ae ?_)))
 ·show _*32≤_;omega
 ·show _*2≤_;omega
 refine aj (rr ae ?_)
 refine aK (bA (α:=Nat) (λi=>⟨[(0,cS .z a),(1,cS .z b),(5,.c (.P 0 0)),(7,.c (.X 1006000)),(19,cI a.length),(20,cI i)],[(0,.box 44 0 (av .z m)),(1006000,.vec 44 .z (iB a b i))],5,[]⟩) (λi=>i≤a.length) (λi=>a.length-i) 0 (bK _) (wk ⟨sR ae,sR ae,sR ae,sR ae,sR ae,sR ae,ah⟩ ⟨bE ae ae,bR ae,ah⟩) ?_)
 ·intro i hi;refine rr ae (aj (ax ae (λh=>?_) (λh=>?_)))
  ·have h:i<a.length:=by have h:(i:Int)<(a.length:Int):=bc h;omega
   refine aC (ai (aj (aK (rr ae (rr ae ?_)))));refine aK (bA (α:=Nat) (λj=>⟨[(0,cS .z a),(1,cS .z b),(5,.c (.P 0 0)),(7,.c (.X 1006000)),(8,cI i),(19,cI a.length),(20,cI i),(24,cI b.length),(25,cI j)],[(0,.box 44 0 (av .z m)),(1006000,.vec 44 .z (kj a b i j (iB a b i)))],8,[]⟩) (λj=>j≤b.length) (λj=>b.length-j) 0 (bK _) ck ?_);intro j hj;have qc:(kj a b i j (iB a b i)).length=a.length+b.length-1:=by rw[IK,k6]
   refine rr ae (aj (ax ae (λh2=>?_) (λh2=>?_)))
   ·have h2:j<b.length:=by have h2:(j:Int)<(b.length:Int):=bc h2;omega
    have yl:((i:Int)+(j:Int)).toNat=i+j:=af;have hz:=ab2 ha hb (i:=i) af (MZ ha hb i af) j (i+j);have hmul:aG Tryz.prog 105 [.a (av .z (a.getD ((i:Int)).toNat 0)),.a (av .z (b.getD ((j:Int)).toNat 0))] (aZ (a.getD i 0*b.getD j 0)):=by rw[bw,bw];exact tY _ _ ((ha i).sm af) ((hb j).sm af)
    have pG:aG Tryz.prog 103 [.a (av .z ((kj a b i j (iB a b i)).getD ((i:Int)+(j:Int)).toNat 0)),aZ (a.getD i 0*b.getD j 0)] (aZ ((kj a b i j (iB a b i)).getD (i+j) 0+a.getD i 0*b.getD j 0)):=by rw[yl];exact Ad _ _ (hz.sm af) (((ha i).mul (hb j)).sm af)
    refine aC (ai (aj (aK (rr ae (cG (rc ae ae hmul (hp:=aR) (rc ae ae pG (lO ((kj a b i j (iB a b i)).getD (i+j) 0+a.getD i 0*b.getD j 0) ae ae ae ae ae (by rw[qc];omega) (re ae ?_) (hp:=aR)))))))));refine a7 (ai (rt ae (a8 (j+1) h2 Oy (wk ⟨sR ae,sR ae,sR ae,sR ae,sR ae,sR ae,sR ae,sR ae,sR ae,ah⟩ ⟨bR ae,bE ae ?_,ah⟩))));rw[kj,yl]
   ·have h2:j=b.length:=by have h2:¬(j:Int)<(b.length:Int):=bC h2;omega
    subst h2;exact bp (bu (br (bq (a7 (ai (rt ae (a8 (i+1) h pQ (wk ⟨sR ae,sR ae,sR ae,sR ae,sR ae,sR ae,ah⟩ ⟨bR ae,bE ae ae,ah⟩))))))))
  ·have h:i=a.length:=by have h:¬(i:Int)<(a.length:Int):=bC h;omega
   subst h;have hZ:=MZ ha hb a.length af;have hZl:=k6 a.length;have Cx:pH a b m=(iB a b a.length).map (·%m):=rfl;rw[Cx];generalize iB a b a.length=Z at*;refine bp (bu (br (bq (ai ?_))));refine aj (rr ae ?_);refine aK (bA (α:=Nat) (λi=>⟨[(1,cS .z b),(5,.c (.P 0 0)),(7,.c (.X 1006000)),(52,cI Z.length),(53,cI i)],[(0,.box 44 0 (av .z m)),(1006000,.vec 44 .z ((Z.map (·%m)).take i++Z.drop i))],12,[]⟩) (λi=>i≤Z.length) (λi=>Z.length-i) 0 (bK _) ck ?_);intro i hi;have IM:((Z.map (·%m)).take i).length=i:=cO;have TB:((Z.map (·%m)).take i++Z.drop i).length=Z.length:=cO;have lQ:((Z.map (·%m)).take i++Z.drop i).getD i 0=Z.getD i 0:=by rw[aY,y8 af,IM,iG,tv,j6,←aY]
   refine rr ae (aj (ax ae (λh=>?_) (λh=>?_)))
   ·have h:i<Z.length:=by have h:(i:Int)<(Z.length:Int):=bc h;omega
    have qv:aG Tryz.prog 162 [.a (av .z (((Z.map (·%m)).take i++Z.drop i).getD ((i:Int)).toNat 0)),aZ m] (.t [(true,av .z (Z.getD i 0/m)),(true,av .z (Z.getD i 0%m)),(false,[.I .i64 0])]):=by rw[bw,lQ];exact wP _ m af ((hZ i).sm af) (hm.sm af)
    refine aC (ai (aj (aK (rr ae (cG (rc ae ae qv (hp:=aR) (lO (Z.getD i 0%m) ae ae ae ae ae (by show(i:Int).toNat<_;rw[bw,TB];exact h) (re ae ?_) (hp:=aR))))))));refine a7 (ai (rt ae (a8 (i+1) h (by show Z.length-(i+1)<Z.length-i;omega) (wk ⟨sR ae,sR ae,sR ae,sR ae,sR ae,ah⟩ ⟨bR ae,bE ae ?_,ah⟩))));refine az (aJ.vec 44 .z) ?_;rw[bw,px _ i (by simp;exact h),nj,pS _ _ af,IM,iG,pR h,Dd,getD_map (df m)];rfl
   ·have h:i=Z.length:=by have h:¬(i:Int)<(Z.length:Int):=bC h;omega
    subst h;rw[JY,kp,lD be];exact bp (bu (br (bq (ai (rr ae (aF (ya (id:=1006000) ar ae ae)))))))
set_option maxHeartbeats 2000000 in
def apb(n:Nat)(hn:n<256):aG Tryz.prog 288 [cU n] (cI (cy n.testBit 8)):=by
 have Re:aG Tryz.prog 291 [cU n] (cI (cy n.testBit 8)):=by refine aX Tryz.func291 ae ae ae ae ae ak ?_;obtain⟨m,rfl⟩:∃m:Fin 256,n=m.1:=⟨⟨n,hn⟩,ae⟩;clear hn;refine rr ae (rr ae (rr ae (rr ae (rr ae (rr ae (rr ae ?_))))));refine rr ae (aF (aL ar ae (au.of_eq (az cI ?_)))) (hp:=by simp only[Pr.an,Pr.h,num,aA,true_and,and_true];revert m;decide+kernel);revert m;decide+kernel
 refine aX Tryz.func288 ae ae ae ae ae ak ?_;refine rr ae (aj (ax ae (λh=>by cases h) (λ_=>aC (ai ?_))));exact rb (rc ae ae Re (re ae (aF (aL ar ae (au.refl _)))))
end Go.El
namespace Go.El
open Go Go.RowKit Go.Proofs
def Jg(l:List (Nat×aJ))(id:Nat):List (Nat×aJ)→Prop
 |[]=>True
 | (t,v')::r=>((∃v,ao t l=some v∧dd v v')∨∃E z,ao t l=some (.box E z [.V (.slice none 0 0)])∧v'= .box E z [.X id])∧Jg l id r
def Jg.get{l:List (Nat×aJ)}{id:Nat}:∀{m:List (Nat×aJ)},Jg l id m→∀{t v'},ao t m=some v'→(∃v,ao t l=some v∧dd v v')∨∃E z,ao t l=some (.box E z [.V (.slice none 0 0)])∧v'= .box E z [.X id]
 |[],_,_,_,h=>by simp[ao]at h
 | (k,x)::m,hw,t,v',h=>by
  simp only[ao]at h;split at h
  ·rename_i e;subst e;cases h;exact hw.1
  ·exact Jg.get hw.2 h
def apc(id:Nat)(E:TypeId)(T:ET){sl:List (Nat×AV)}{mem:List (Nat×aJ)}{nx:Nat}{gd:List (Nat×Bool)}{sl':List (Nat×AV)}{m2:List (Nat×aJ)}{nx':Nat}{gd':List (Nat×Bool)}(hs:xS sl sl')(hm:Jg mem id m2)(al:Nat.ble (1000000*nx) id=true)
  (uj:eO (1000000*nx') ((id,.vec E T [])::m2)) (qJ:sK (1000000*nx') sl'=true:=by rfl) (eS:(Nat.ble 1 nx'&&Nat.ble 1 id)=true:=by rfl):Wk ⟨sl,mem,nx,gd⟩ ⟨sl',(id,.vec E T [])::m2,nx',gd'⟩:=by
 generalize dc:(⟨sl,mem,nx,gd⟩:St)=st
 obtain rfl:sl=st.sl:=AQ
 obtain rfl:mem=st.mem:=AQ
 obtain rfl:nx=st.nx:=AQ
 clear dc
 intro F gM g W a h
 simp only[eQ]at eS
 obtain⟨eS,Ib⟩:=eS
 have eS:=cT eS
 have Ib:=cT Ib
 have al:=cT al
 let g':Gh:=⟨g.H,λj=>if j=id then .slice none 0 0 else g.γ j⟩
 have hle:iH (kb st) g g':=⟨cC.refl _,λj hj=>by have hj:j<1000000*st.nx:=hj;have:j≠id:=af;simp[g',this]⟩
 have lQ:g'.γ id= .slice none 0 0:=by simp[g']
 have xT:∀id,id<F.k0→id<1000000*nx'∧g'.γ id=F.γ0 id:=by intro j hj;obtain⟨h1,h2⟩:=h.iu j hj;refine⟨by omega,?_⟩;rw[hle.γ j h1];exact h2
 have hS:∀t v',St.kn ⟨sl',(id,.vec E T [])::m2,nx',gd'⟩ (.s t)=some (.v v')→(∃v,st.kn (.s t)=some (.v v)∧au v v')∧∀id∈v'.aD,id<1000000*nx':=by intro t v' e;simp only[St.kn,cq]at e;obtain⟨y,hy,he⟩:=e;cases he;refine⟨?_,zJ qJ t v' hy⟩;obtain⟨v,hv,hle⟩:=hs.get hy;exact⟨v,by simp[St.kn,hv],hle⟩
 have hM:∀j b',St.kn ⟨sl',(id,.vec E T [])::m2,nx',gd'⟩ (.m j)=some (.b b')→((j=id∧b'= .vec E T [])∨(∃b,st.kn (.m j)=some (.b b)∧dd b b')∨∃E1 z,st.kn (.m j)=some (.b (.box E1 z [.V (.slice none 0 0)]))∧b'= .box E1 z [.X id])∧(j<1000000*nx'∧∀i∈b'.aD,i<1000000*nx'):=by
  intro t v' e;simp only[St.kn,cq]at e;obtain⟨y,hy,he⟩:=e;cases he;refine⟨?_,uj t v' hy⟩;simp only[ao]at hy;split at hy
  ·rename_i e;cases hy;exact .inl ⟨e.symm,ae⟩
  ·rcases hm.get hy with⟨v,hv,hle⟩|⟨E1,z,hv,e⟩
   ·exact .inr (.inl ⟨v,by simp[St.kn,hv],hle⟩)
   ·exact .inr (.inr ⟨E1,z,by simp[St.kn,hv],e⟩)
 refine⟨g',h.size,h.defers,?_,?_,?_,?_,?_,h.sub,h.below,h.le,h.fresh,xT⟩
 ·intro t v' e;obtain⟨v,hv,H7⟩:=(hS t v' e).1;exact H7.1 _ _ (bP.mono hle (h.aD _ _ hv) (h.gw t v hv))
 ·intro j b' e;rcases(hM j b' e).1 with⟨rfl,rfl⟩|⟨b,hb,eJ⟩|⟨E1,z,hb,rfl⟩
  ·exact .inl ⟨lQ,ae⟩
  ·exact eJ.1 _ _ _ _ ((h.c9 j b hb).D6 hle (h.fy _ _ hb) (h.aD _ _ hb) (λk hk=>⟨ae,λo=>rfl⟩))
  ·obtain⟨k,vs,rest,e1,e2,e3,e4,e5,e6⟩:=(h.c9 j _ hb).D6 hle (h.fy _ _ hb) (h.aD _ _ hb) (λk hk=>⟨ae,λo=>rfl⟩);refine⟨k,vs,rest,e1,e2,?_,e4,e5,e6⟩;obtain⟨v,r,rfl,h1,h2⟩:=e3;refine⟨v,r,ae,?_,h2⟩;show v=g'.γ id;rw[lQ];exact h1
 ·intro i j b1 b2 k e e' hk du;have rG:∀i b1,St.kn ⟨sl',(id,.vec E T [])::m2,nx',gd'⟩ (.m i)=some (.b b1)→cN (g'.γ i)=some k→∃c,st.kn (.m i)=some (.b c)∧cN (g.γ i)=some k:=by
   intro i b1 e hk;rcases(hM i b1 e).1 with⟨rfl,_⟩|⟨c,hc,_⟩|⟨E1,z,hc,_⟩
   ·rw[lQ]at hk;cases hk
   ·rw[hle.γ i (h.fy _ _ hc)]at hk;exact⟨c,hc,hk⟩
   ·rw[hle.γ i (h.fy _ _ hc)]at hk;exact⟨_,hc,hk⟩
  obtain⟨c,hc,fX⟩:=rG i b1 e hk;obtain⟨c',pf,dL⟩:=rG j b2 e' du;exact h.inj i j c c' k hc pf fX dL
 ·intro k y e i hi;cases k with
  |s t=>
   cases y with
   |v v'=>exact(hS t v' e).2 i hi
   |b b'=>simp only[St.kn,cq]at e;obtain⟨_,_,he⟩:=e;cases he
  |m j=>
   cases y with
   |v v'=>simp only[St.kn,cq]at e;obtain⟨_,_,he⟩:=e;cases he
   |b b'=>exact(hM j b' e).2.2 i hi
 ·intro j y e;cases y with
  |v v'=>simp only[St.kn,cq]at e;obtain⟨_,_,he⟩:=e;cases he
  |b b'=>exact(hM j b' e).2.1
section
variable{P:Program}
def apd{n:Nat}{ops:Array Oper}{draw:Bool}{nx i:Nat}{os:List Oper}{st:St}{ks:List Ks}{Q Q':St→Prop}(h:RG P n ops draw nx i os st ks Q)(hq:∀st',Q st'→Q' st'):RG P n ops draw nx i os st ks Q':=λhd=>by obtain⟨ds,st',h0,h1,h2,h3,h4,h5,h6,h7⟩:=h hd;exact⟨ds,st',h0,h1,h2,h3,h4,h5,h6,hq st' h7⟩
end
section
variable{n:Nat}{Q:fA}{O:vR}{sl sl':List (Nat×AV)}{mem mem':List (Nat×aJ)}{nx:Nat}{gd gd':List (Nat×Bool)}{id:Nat}{ops:Array Oper}{draw:Bool}{y:Code}{p:Pr}{ks cj:List Ks}{i i' n0 b7:Nat}
def kr(hO:AM O)(h:runs eB n nx draw ops.toList ops.toList 0 ⟨sl,mem,nx,gd⟩ .t []=([],i',⟨sl',mem',n0,gd'⟩,p,ks))(hk:TJ Tryz.prog n y ⟨sl',mem',nx+1,[]⟩ O Q)
  (hp:p:=by first|trivial| (simp only[Pr.an,Pr.h,num,aA,true_and,and_true];first|done|omega)| (simp[Pr.an,Pr.h,num,aA];done)| (simp[Pr.an,Pr.h,num,aA];omega)) (ho:(!draw||tK ops.toList ks)=true:=by kernel_rfl) (cR:Nat.ble ops.size 1000=true:=by rfl):TJ Tryz.prog n (.seq (.region id ops draw) y) ⟨sl,mem,nx,gd⟩ O Q:=
 qU (NB MX hO (jB ar h hp (GL (oj hk) ho cR)))
def kt(hO:AM O)(h:runs eB n nx draw ops.toList ops.toList 0 ⟨sl,mem,nx,gd⟩ .t []=([],i',⟨sl',mem',n0,gd'⟩,p,ks))(hk:gH n .normal ⟨sl',mem',nx+1,[]⟩ O Q)
  (hp:p:=by first|trivial| (simp only[Pr.an,Pr.h,num,aA,true_and,and_true];first|done|omega)| (simp[Pr.an,Pr.h,num,aA];done)| (simp[Pr.an,Pr.h,num,aA];omega)) (ho:(!draw||tK ops.toList ks)=true:=by kernel_rfl) (cR:Nat.ble ops.size 1000=true:=by rfl):TJ Tryz.prog n (.region id ops draw) ⟨sl,mem,nx,gd⟩ O Q:=
 NB MX hO (jB ar h hp (GL hk ho cR))
def CQ(hO:AM O)(h:RG Tryz.prog n ops draw nx 0 ops.toList ⟨sl,mem,nx,gd⟩ [] (λst'=>TJ Tryz.prog n y st' O Q)):TJ Tryz.prog n (.seq (.region id ops draw) y) ⟨sl,mem,nx,gd⟩ O Q:=qU (NB MX hO (apd h λ_ h=>oj h))
def Uz(hO:AM O)(h:RG Tryz.prog n ops draw nx 0 ops.toList ⟨sl,mem,nx,gd⟩ [] (λst'=>gH n .normal st' O Q)):TJ Tryz.prog n (.region id ops draw) ⟨sl,mem,nx,gd⟩ O Q:=NB MX hO h
end
end Go.El
namespace Go.El
open Go Go.Proofs
def adQ{n:Nat}{Q:fA}{st:St}{O O':vR}{α:Type}{iw:α→St}{φ:α→Prop}{μ:α→Nat}{x:α}(h:gH n .ret st O' Q):gH n .ret st O' (I7 iw φ μ x O Q):=h
def UA{g:Gh}{c:C}:∀{cs:List (Bool×List C)}{ws:List Value},dt g (cs++[(false,[c])]) ws→∃us w,ws=us++[w]∧us.length=cs.length∧dk g c w
 |[],ws,h=>by obtain⟨v,r,rfl,h1,h2⟩:=h;have h2:r=[]:=h2;subst h2;exact⟨[],v,ae,ae,h1⟩
 |s::cs,ws,h=>by obtain⟨v,r,rfl,h1,h2⟩:=h;obtain⟨us,w,rfl,e,h3⟩:=UA h2;exact⟨v::us,w,ae,by simp[e],h3⟩
def ape{cs:List (Bool×List C)}{id off:Nat}{ws:List Value}(g g':Gh)(val:Value)(h:dt g (cs++[(false,[.P id off])]) ws)(hv:bP g (.c (.P id off)) val)(h':dt g' (cs++[(false,[.P id off])]) ws):bP g' (.c (.P id off)) val:=by obtain⟨us,w,e1,e2,h1⟩:=UA h;obtain⟨Qn,w',rq,G7,zu⟩:=UA h';rw[e1]at rq;have e3:=(List.append_inj rq af).2;simp only[OV,and_true]at e3;subst e3;obtain⟨b,hb,rfl⟩:=hv;obtain⟨b2,dK,rfl⟩:=h1;rw[hb]at dK;cases dK;exact zu
def Jh(R:pL)(k d:Nat)(l:List (Nat×AV)):List (Nat×AV)→Prop
 |[]=>True
 | (t,u)::r=>(ao t l=some u∧Nat.beq t d=false∧(u.aD=[]∨(∀g g' val,dt g R.caps R.ws→bP g u val→dt g' R.caps R.ws→bP g' u val)∧∀id∈u.aD,id<1000000*k))∧Jh R k d l r
def Jh.get{R:pL}{k d:Nat}{l:List (Nat×AV)}:∀{m:List (Nat×AV)},Jh R k d l m→∀t u,ao t m=some u→ao t l=some u∧t≠d∧(u.aD=[]∨(∀g g' val,dt g R.caps R.ws→bP g u val→dt g' R.caps R.ws→bP g' u val)∧∀id∈u.aD,id<1000000*k)
 |[],_,_,_,h=>by simp[ao]at h
 | (q,x)::m,hw,t,u,h=>by
  simp only[ao]at h;split at h
  ·rename_i e;subst e;cases h;exact⟨hw.1.1,λe=>(by have:=hw.1.2.1;rw[e,O5]at this;cases this),hw.1.2.2⟩
  ·exact Jh.get hw.2 t u h
def NL{n nx i:Nat}{ops:Array Oper}{cE:List Oper}{i' j:Nat}{st st' st2:St}{p':Pr}{cj:List Ks}(h:runs eB n nx false ops.toList (ops.toList.drop i) i st .t []=(cE,i',st',p',cj))(t:SG Tryz.prog n ops nx i' st' j st2)
  (hp:p':=by first|trivial| (simp only[Pr.an,Pr.h,num,aA,true_and,and_true];first|done|omega)| (simp[Pr.an,Pr.h,num,aA];done)| (simp[Pr.an,Pr.h,num,aA];omega)):SG Tryz.prog n ops nx i st j st2:=
 (ads ar _ i st .t [] h hp (λq o ho=>by rw[tv]at ho;rw[←F2];exact ho)).1 ah t
def apf{n nx i j:Nat}{ops:Array Oper}{d f:Nat}{args:Array Operand}{di:Array TypeId}{ty:TypeId}{pos:String}{cJ:Array Edge}{st st2:St}{vs:List AV}{r:AV}(ho:ops[i]? =some ⟨some d,.call ⟨.value (.func f),args,di⟩,ty,pos,cJ,none⟩)(hv:kB st args.toList=some vs)(hf:aG Tryz.prog f vs r)(t:SG Tryz.prog n ops nx (i+1) (st.put d r) j st2)(hm:fH vs=[]:=by rfl)(aV:Nat.blt d n=true:=by rfl):SG Tryz.prog n ops nx i st j st2:=
 .cons (PO ho ae ae (cT aV) ae hv hm hf) t
def apg{n nx i j:Nat}{ops:Array Oper}(q:Nat){b c:Bool}{sl:List (Nat×AV)}{mem:List (Nat×aJ)}{n0:Nat}{gd:List (Nat×Bool)}{st2:St}(hb:ao q sl=some (.c (.B b)))(e:b=c)(t:SG Tryz.prog n ops nx i ⟨(q,.c (.B c))::sl,mem,n0,(q,c)::gd⟩ j st2):SG Tryz.prog n ops nx i ⟨sl,mem,n0,gd⟩ j st2:=t.eq (by
 subst e;funext k;cases k with
 |s t'=>
  by_cases e:q=t'
  ·subst e;simp[St.kn,ao,hb]
  ·simp[St.kn,ao,e]
 |m id=>rfl)
def aph(n:Nat):(iD n).Pairwise (λx y=>cy x.testBit n<cy y.testBit n∨(cy x.testBit n=cy y.testBit n∧x<y)):=by
 have one:∀s,(vO n s).Pairwise (λx y=>cy x.testBit n<cy y.testBit n∨(cy x.testBit n=cy y.testBit n∧x<y)):=λs=>by refine VU ?_ (List.Pairwise.filter _ (VW (n:=2^n)):(vO n s).Pairwise (·<·));intro x y hx hy bh;simp only[vO,xC,beq_iff_eq]at hx hy;omega
 have key:∀k,((List.range k).flatMap λs=>vO n (s+1)).Pairwise (λx y=>cy x.testBit n<cy y.testBit n∨(cy x.testBit n=cy y.testBit n∧x<y)):=by
  intro k;induction k with
  |zero=>exact .nil
  |succ k ih=>
   rw[pW,za]
   refine AZ.2 ⟨ih,?_,λx hx y hy=>?_⟩
   ·simp only[gJ,OT,kp];exact one (k+1)
   ·simp only[jE,kR,gJ,OT,kp,vO,xC,beq_iff_eq]at hx hy;obtain⟨s,h1,h2,h3⟩:=hx;left;omega
 exact key _
def api{n x:Nat}{good:Nat→Bool}(hx:x∈iD n)(hg:good x=true)(h:∀T∈iD n,cy T.testBit n<cy x.testBit n∨(cy T.testBit n=cy x.testBit n∧T<x)→good T=false):(iD n).find? good=some x:=by
 cases hf:(iD n).find? good with
 |none=>exact absurd hg (by simpa using JU.1 hf x hx)
 |some y=>
  obtain⟨h1,us,ws,h2,h3⟩:=List.find?_eq_some_iff_append.1 hf
  have hp:=aph n
  rw[h2]at hx hp
  rcases bX.1 hx with e|e
  ·have:=h3 x e;rw[hg]at this;cases this
  ·rcases dx.1 e with e|e
   ·rw[e]
   ·have h4:=(jZ.1 (AZ.1 hp).2.1).1 x e;have h5:=h y (by rw[h2];simp) h4;rw[h1]at h5;cases h5
def apj{x n:Nat}(hx:x<2^n)(hn:n≤8):cy x.testBit 8=cy x.testBit n:=by
 have key:∀d,cy x.testBit (n+d)=cy x.testBit n:=λd=>by
  induction d with
  |zero=>rfl
  |succ d ih=>rw[←tA,cy,ih,Nat.testBit_lt_two_pow (kl hx (jP ak af))];simp
 have:=key (8-n);rwa[show n+(8-n)=8 by omega]at this
abbrev vS:List (Nat×C):=[(3,.P 1000000 0),(4,.P 1001000 0),(5,.P 1002000 0),(7,.P 2000000 0)]
abbrev NM:List (Bool×List C):=[(false,[.P 4002000 0])]
abbrev mC(n:Nat)(a:List Int)(l:List (List Int))(m:Int)(fd:List (List Int)):List (Nat×aJ):=[(4002000,.box 3 0 [.I .i64 n]),(1000000,.box 57 0 [.S .z a]),(1001000,.box 61 0 [.S (.sl .z) l]),(1002000,.box 44 0 (av .z m)),(2000000,.box 61 0 [.X 3000000]),(3000000,.vec 57 (.sl .z) fd)]
abbrev oo:Nat×aJ:=(0,.fQ 0 [] (rZ vS++NM))
abbrev NN(R:pL):AV:= .c (.V (.func (.yield R.l) #[] #[]))
def adS{R:pL}{bo:Bool}{xid n:Nat}{Mo:List (Nat×aJ)}{e:Exit}{st:St}(he:e= .normal∨e= .ret)(eS:1≤st.nx)(hm:st.mem=Mo):gH n e st (R.O (om bo xid)) (R.Q bo xid Mo):=by intro F hF gM ds g W a hh hO;have Ji:ds=[]:=hO.2.2.2.1;subst Ji;refine⟨he,⟨g,st.nx,eS,?_⟩,hO⟩;obtain⟨sl,mem,nx,gd⟩:=st;simp only at hm eS;subst hm;exact bJ.frame (F:=F.dr []) (n':=(F.dr []).n) (ds':=[]) (rd':=(F.dr []).rd) hh hh.size hh.defers (λt v hv=>by simp[ao]at hv) (λid b hb=>hb)
set_option maxRecDepth 100000 in
set_option maxHeartbeats 8000000 in
def apk{R:pL}(ok:R.Ok)(pc:R.caps=rZ vS++NM)(Je:R.S0=qV vS){n:Nat}{a:List Int}{l:List (List Int)}{m:Int}{fd:List (List Int)}(hn:n≤8){good:Nat→Bool}{Mo:Nat→List (Nat×aJ)}{nxr:Nat}(apl:nxr=30)
  (yO:∀x id b,ao id (Mo x)=some b→id≠0∧id<5000000∧∀j∈b.aD,j<5000000)
  (rnd:∀x,x∈iD n→∃stB:St,1≤stB.nx∧TJ Tryz.prog R.n0 R.iT ⟨(R.p,cU x)::R.S0,oo::mC n a l m fd,nxr,[]⟩ xn (λF e a W=>e= .normal∧∃g,bJ (F.dr []) (kb stB) stB.kn g W a)∧TJ Tryz.prog R.n0 R.bd stB xn (Jd (!good x) 1 (oo::if good x then Mo x else mC n a l m fd)))
  {cb:Code} (cw:Tryz.f287.body=some cb):
  TJ Tryz.prog 27 cb ⟨[(0,NN R),(1,.c (.P 4002000 0))],oo::mC n a l m fd,5,[]⟩ (R.O none) (R.Q ((iD n).find? good).isNone 1 (oo::match(iD n).find? good with|none=>mC n a l m fd|some S=>Mo S)):=by
 obtain rfl:=Gc ((rfl:Tryz.f287.body=some _).symm.trans cw)
 have hO:=R.adt none
 refine kr hO ae (uC (Jb (α:=Nat) (λs=>⟨[(0,NN R),(1,.c (.P 4002000 0)),(3,cI s)],oo::mC n a l m fd,6,[]⟩) (λs=>1≤s∧s≤n/2+1∧∀T∈iD n,cy T.testBit n<s→good T=false) (λs=>n/2+1-s) 1 ⟨bF _,by omega,λT hT h=>by have:=(yM.1 hT).2.1;omega⟩ ck ?_))
 rintro s ⟨s1,s2,s3⟩
 refine qU (kr hO ae (xm ae (λh=>?_) (λh=>?_)))
 ·have h:s≤n/2:=by have h:(s:Int)≤Int.tdiv (n:Int) 2:=bc h;have e:Int.tdiv (n:Int) 2=((n/2:Nat):Int):=rfl;omega
  have iJ:2^n≤256:=dG (jP ak hn) ak;refine CM (oj (qU (uC (kr hO ae (uC (Jb (α:=Nat) (λx=>⟨[(0,NN R),(1,.c (.P 4002000 0)),(3,cI s),(12,cU (2^n:Nat)),(13,cU x)],oo::mC n a l m fd,8,[]⟩) (λx=>x≤2^n∧∀T∈iD n,cy T.testBit n=s→T<x→good T=false) (λx=>2^n-x) 0 ⟨bK _,λT _ _ h=>absurd h af⟩ (wk ⟨sR ae,sR ae,sR ae,sE ae ?_,sR ae,ah⟩ ⟨bR ae,bR ae,bR ae,bR ae,bR ae,bR ae,bR ae,ah⟩) ?_))))))
  ·have e1:min ((n:Int)).toNat (IntKind.bits .u64)=n:=by rw[bw];show min n 64=n;omega
   refine az (λz=>AV.c (C.I .u64 z)) (show IntKind.wrap .u64 (1*2^(min ((n:Int)).toNat (IntKind.bits .u64)))=((2^n:Nat):Int)from ?_);rw[e1,iY];have e2:(2:Int)^n=((2^n:Nat):Int):=by rw[uK];rfl
   rw[e2];exact wrap_u64 _ (nO _) (by have:((2^n:Nat):Int)≤256:=O8.2 iJ;omega)
  rintro x ⟨x1,x2⟩;refine kr hO ae (qU (xm ae (λh4=>?_) (λh4=>?_)))
  ·have h4:x<2^n:=by have h4:(x:Int)<((2^n:Nat):Int):=bc h4;omega
   have adT:=apb x af;have hc8:=apj h4 hn;refine CM (oj (qU (uC (kr hO ae ?_))));by_cases eL:cy x.testBit n=s
   ·have Bf:x∈iD n:=yM.2 ⟨h4,by omega,by omega⟩;obtain⟨stB,Ur,hA,hB⟩:=rnd x Bf;have apo:aG Tryz.prog 288 [cU x] (cI s):=by rw[←eL,←hc8];exact adT
    have hd:((s:Int)==(s:Int))=true:=be;refine qU (aoB (i:=7) (d:=23) (j:=21) (x:=22) (v:=cU x) (M:=oo::mC n a l m fd) (Mo:=oo::if good x then Mo x else mC n a l m fd) (xid:=1) (stB:=stB) (nxr:=nxr) (bo:= !good x) (slk:=[(0,NN R),(1,.c (.P 4002000 0)),(3,cI s),(12,cU (2^n:Nat)),(13,cU x),(20,cB true)]) (gd1:=[(20,true)]) ok ae ae ae (.inr ⟨4,true,20,ae,ae,ae⟩) (NL ae (apf ae ae apo (NL ae (apg 20 ae hd (NL ae (.nil ae)))))) ae ae ae ak ae (by rw[pc];rfl) (by rw[pc];rfl) (Jh.get ⟨⟨ae,ae,.inl ae⟩,⟨ae,ae,.inr ⟨?_,?_⟩⟩,⟨ae,ae,.inl ae⟩,⟨ae,ae,.inl ae⟩,⟨ae,ae,.inl ae⟩,⟨ae,ae,.inl ae⟩,ah⟩) ?_ ?_ ?_ ?_ Ur ?_ hA hB (NL ae (.nil ae)) ?_)
    ·intro g g' val h hv h';rw[pc]at h h';exact ape (cs:=rZ vS) g g' val h hv h'
    ·intro id al;have:id=4002000:=by simpa[AV.aD,C.aD]using al
     subst this;show 4002000<1000000*10;decide
    ·intro id b hb;show id<1000000*10∧∀j∈b.aD,j<1000000*10;by_cases hg:good x=true
     ·rw[aw hg]at hb;simp only[ao]at hb;split at hb
      ·rename_i e;cases hb;subst e;exact⟨by decide,λj hj=>KF (b:=10000000) (l:=(aJ.fQ 0 [] (rZ vS++NM)).aD) ae j hj⟩
      ·have:=yO x id b hb;exact⟨by omega,λj hj=>by have:=this.2.2 j hj;omega⟩
     ·rw[aq hg]at hb;exact KG (b:=10000000) (l:=oo::mC n a l m fd) ae id b hb
    ·show 1≤10;decide
    ·exact cT ae
    ·rw[apl];show 11≤30;decide
    ·rw[Je];exact zJ (b:=10000000) (l:=qV vS) ae
    ·cases hg:good x with
     |false=>
      refine oj (xm ae (λe2=>by cases e2) (λ_=>CM (AN (oj (kt hO ae (CO (x+1) ⟨h4,λT hT hc bh=>?_⟩ (by show 2^n-(x+1)<2^n-x;omega) (wk ⟨sR ae,sR ae,sR ae,sR ae,sE ae ?_,ah⟩ ⟨bR ae,bR ae,bR ae,bR ae,bR ae,bR ae,bR ae,ah⟩)))))))
      ·by_cases e:T=x
       ·rw[e];exact hg
       ·exact x2 T hT hc af
      ·exact az (λz=>AV.c (C.I .u64 z)) (show IntKind.wrap .u64 ((x:Int)+1)=((x+1:Nat):Int)from(wrap_u64 _ af af).trans af)
     |true=>
      have apq:(iD n).find? good=some x:=api Bf hg λT hT h=>by
       rcases h with h|h
       ·exact s3 T hT af
       ·exact x2 T hT af h.2
      rw[apq]
      refine oj (xm ae (λ_=>adk ?_) (λe2=>by cases e2))
      refine Fq (adn (adQ (Fq (Fq (adn (adQ (Fq ?_)))))))
      exact adS (bo:=false) (.inr ae) (by show 1≤11;decide) ae
   ·refine CQ hO (rc ae ae adT (rg 20 ae ae (λe1=>?_) (λe1=>re ae (xm ae (λe2=>by cases e2) (λ_=>CM (AN (oj (kt hO ae (CO (x+1) ⟨h4,λT hT hc bh=>?_⟩ (by show 2^n-(x+1)<2^n-x;omega) (wk ⟨sR ae,sR ae,sR ae,sR ae,sE ae ?_,ah⟩ ⟨bR ae,bR ae,bR ae,bR ae,bR ae,bR ae,bR ae,ah⟩))))))))))
    ·exfalso;have e1:((cy x.testBit 8:Nat):Int)=(s:Int):=eq_of_beq e1;omega
    ·by_cases e:T=x
     ·rw[e]at hc;exact absurd hc eL
     ·exact x2 T hT hc af
    ·exact az (λz=>AV.c (C.I .u64 z)) (show IntKind.wrap .u64 ((x:Int)+1)=((x+1:Nat):Int)from(wrap_u64 _ af af).trans af)
  ·have h4:x=2^n:=by have h4:¬(x:Int)<((2^n:Nat):Int):=bC h4;omega
   subst h4;refine I9 (I' (NC (Ja (AN (oj (kt hO ae (CO (s+1) ⟨by omega,by omega,λT hT hc=>?_⟩ (by show n/2+1-(s+1)<n/2+1-s;omega) ck)))))));by_cases e:cy T.testBit n=s
   ·exact x2 T hT e (yM.1 hT).1
   ·exact s3 T hT af
 ·have h:¬s≤n/2:=by have h:¬(s:Int)≤Int.tdiv (n:Int) 2:=bC h;have e:Int.tdiv (n:Int) 2=((n/2:Nat):Int):=rfl;omega
  have ef:∀T∈iD n,good T=false:=λT hT=>s3 T hT (by have:=(yM.1 hT).2.2;omega)
  have apr:(iD n).find? good=none:=JU.2 λT hT=>by rw[ef T hT];decide
  rw[apr];exact I9 (I' (NC (Ja (adS (bo:=true) (.inl ae) (by show 1≤7;decide) ae))))
end Go.El
