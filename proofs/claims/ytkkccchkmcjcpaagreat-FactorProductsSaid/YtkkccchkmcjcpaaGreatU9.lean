/- Contract: a squarefree polynomial modulo p is split. Own work; no condition. -/
import Derived.Test.YtkkccchkmcjcpaaGreatU8
import Derived.Test.YtkkccchkmcjcpaaGreatU5
import Derived.Test.YtkkccchkmcjcpaaGreatU6
import Derived.Test.YtkkccchkmcjcpaaGreatU7
set_option linter.defProp false
set_option linter.unusedVariables false
set_option linter.unusedSimpArgs false
set_option linter.unnecessarySimpa false
namespace Go.El
open Go Go.Proofs Fx
def Nb(p:Nat)(l:List (List Int)):(lP p l).length=l.length:=dM _
def abo{p:Nat}{l:List (List Int)}{i:Nat}(h:i<l.length):(lP p l).getD i ([],0)=(l[i],(p:Int)):=by rw[aU,kc,cr h];rfl
def amf{o:Nat}{E0:TypeId}{r:Nat}{E:TypeId}{T:ET}{f:Nat→List T.den}{conc:List (Nat×aK)}(ho:ao o conc=none)(hc:MC conc=true)(hr:r≤900):∀id b,ao id (fg o E0 r E T f)=some b→ao id conc=none:=by
 intro id b h;unfold fg at h;simp only[ao]at h;split at h
 ·rename_i e;rw[←e];exact ho
 ·obtain⟨i,h1,h2,_⟩:=MB h;rw[h2];exact ak7 hc af
def TA{A B id:Nat}{l:List (Nat×aK)}{v:aK}(h:id≠A)(e:ao id l=some v):ao (mw A B id) l=some v:=by rwa[qZ h]
def amg(p n:Nat)(im:Nat→List Int)(r:Nat):kL p n im 0 r=List.replicate n 0:=CJ (by rw[yU,jy]) λc hc=>by rw[yU]at hc;rw[AP p n im 0 r hc,aq af,aU,mU,aw hc];rfl
abbrev abp(n:Nat)(cs:List C)(f x:List Int)(p:Nat)(i:Nat):List (Nat×aK):=(1000,.box 22 0 cs)::(0,.box 101 0 [.S aM f,.I .u64 p])::(3009000,.box 101 0 [.S aM x,.I .u64 p])::gA i 25 aM (λ_=>List.replicate n 0)
def abq{n:Nat}{cs:List C}{f x:List Int}{p i K:Nat}(dQ:∀j∈cD cs,j<K)(h:i≤900)(hK:4000000≤K):eQ K (abp n cs f x p i):=
 .cons af dQ (.cons af (λj hj=>by cases hj) (.cons af (λj hj=>by cases hj) (.gA af)))
set_option maxRecDepth 100000 in
set_option maxHeartbeats 8000000 in
def abr{p:Nat}(H:bI p)(f:List Int)(hf:Mon p f)(h2:2≤f.length)(sf:f.length≤200)(hs:lE (fx f:Fx p)):aG Tryz.prog 128 [aP f p] (cS PT (lP p (nO H f))):=by
 have iN:=H.hp.1;have Eh:=H.le;have vE:(p:Int)≠0:=af;refine aX Tryz.func128 ae ae ae ae ae ak ?_;refine rr ae (rb (rc ae ae (uv f p af) (re ae ?_)));refine aj (rr ae (ax ae (λh=>?_) (λh=>aC (ai ?_))))
 ·have h:f.length≤2:=by have h:(f.length:Int)-1<2:=a9 h;omega
  rw[show nO H f=[f]from aw h];exact rb (rl PT [(f,(p:Int))] ae ae (re ae (aF (bS (aL ar ae (au.refl _))))))
 have h3:3≤f.length:=by have h:¬(f.length:Int)-1<2:=bC h;omega
 obtain⟨CN,hKl,hSp⟩:=abn H hf h3 sf hs;have hi:=Tv H hf h3;obtain⟨n,hn⟩:∃n,f.length=n+1:=⟨f.length-1,by omega⟩;have en:(f.length:Int)-1=(n:Int):=af;rw[show nO H f=mQ H f (q9 H f) (q9 H f).length from aq af];have qq:q9 H f=j6 p n (kL p n (nN H f) n):=by unfold q9;rw[hn,iY]
 rw[en];obtain⟨m1,m2,m3⟩:=CH H hf.c hf.ne (pk (X:Fx p) p);have hx:bX p [0,1]:=⟨λi=>by
  match i with
  |0=>exact⟨jB _,by show(0:Int)<(p:Int);omega⟩
  |1=>exact⟨by show(0:Int)≤1;decide,by show(1:Int)<(p:Int);omega⟩
  |i+2=>exact⟨jB _,by show(0:Int)<(p:Int);omega⟩,.inr (by show(1:Int)≠0;decide)⟩
 have IY:(fx [0,1]:Fx p)=X:=by rw[SE,Mv,mK,zero_add,mul_one]
 have IK:aG Tryz.prog 182 [aP [0,1] p,cU p,MN f p] (aP (mM H f (pk X p)) p):=by have:=aaA H f [0,1] p sf hf.c hx (by show 2<_;omega) af af;rwa[IY]at this
 generalize hxx:mM H f (pk (X:Fx p) p)=x at*;refine rb (rl aM [0,1] ae ae (ML ae ae ae (rc ae ae IK (re ae ?_))));refine rb (rk 1 ae ae (aaj ar n (hx:=rfl) ae ae ae ak (by show n*24≤_;omega) af (re ae ?_)));refine aj (rb (iV ae ae ah (re ae (aH (bA (α:=Nat) (λi=>⟨[(1,.c (.P 0 0)),(3,cI n),(4,.c (.P 3009000 0)),(5,.c (.L 1000 0 n (some n))),(34,cI n),(35,cI i)],abp n (o8 n i) f x p i,6,[]⟩) (λi=>i≤n) (λi=>n-i) 0 (bK _) ?_ ?_)))))
 ·refine xt (mw 1000 4001000) ⟨sR ae,sR ae,sR ae,sR ae,sR ae,sR ae,ah⟩ ⟨bE ae ?_,bE ae ae,bE ae ae,j4.gA λq hq=>absurd hq af⟩ ae (Fv (by(repeat(refine(bH af).trans ?_));exact Tm af)) (abq (aaZ (by show 1+0≤1000000*6;decide)) af (by show 4000000≤1000000*6;decide));show aK.box 22 0 (yn [.V (.slice none 0 0)] n)=aK.box 22 0 ((o8 n 0).map (oj (mw 1000 4001000)));rw[aaY af,alU,S3]
 ·intro i hin;have rf:=alS n i hin;refine rr ae (aj (ax ae (λh=>?_) (λh=>?_)))
  ·have nP:i<n:=by have h:(i:Int)<(n:Int):=a9 h;omega
   refine aC (ai (aj (aH (rr ae (cK ?_)))));refine rm aM n ae ae ae ae ae ae (lU .u64) ae ?_ ?_ ?_
   ·show _*8≤_;omega
   ·show _*1≤_;omega
   refine iV ae ae ⟨by show(0:Int)≤(i:Int);omega,by show(i:Int)<(n:Int);omega⟩ (Fg ar ae ae ae ae ae ?_ (re ae ?_ (ho:=qX fR)))
   ·show 0+((i:Int)).toNat*1<_;rw[rf];omega
   refine a6 (ai (rt ae (hp:=aN) (a8 (i+1) nP Pc (xt (mw (1+i) 8003000) ⟨⟨_,ae,au.of_eq (ay (λz=>AV.c (.P z 0)) (qZ af).symm)⟩,sR ae,⟨_,ae,au.of_eq (ay (λz=>AV.c (.P z 0)) (qZ af).symm)⟩,⟨_,ae,au.of_eq (ay (λz=>AV.c (.L z 0 n (some n))) (qZ af).symm)⟩,sR ae,sR ae,ah⟩ ⟨⟨_,TA af ae,di.of_eq ?_⟩,⟨_,TA af ae,di.of_eq ae⟩,⟨_,TA af ae,di.of_eq ae⟩,j4.gA λq hq=>?_⟩ (qZ af) (Fv (by(repeat(refine(bH af).trans ?_));exact Tm af)) (abq (aaZ (by show 1+(i+1)≤1000000*6;omega)) af (by show 4000000≤1000000*6;decide))))))
   ·show aK.box 22 0 ((o8 n i).set (0+((i:Int)).toNat*1) (.X 8003000))=aK.box 22 0 ((o8 n (i+1)).map (oj (mw (1+i) 8003000)));rw[←alV n i nP,aaX,aaY af,bu,eZ,k9];show _=aK.box 22 0 ((o8 n i).set i (.X (mw (1+i) 8003000 (1+i))));rw[MV]
   ·by_cases e:q=i
    ·subst e;rw[MV];rfl
    ·rw[qZ af];(repeat(refine(bH af).trans ?_));exact cw (f:=λ_=>List.replicate n 0) af
  ·have nP:n=i:=by have h:¬(i:Int)<(n:Int):=bC h;omega
   subst nP;refine bh (bt (bq (bp (ai ?_))));have Tg:aG Tryz.prog 125 [aP f p,cU 1] (aP [1] p):=by have:=AA f 1 p H.pos af af af;rwa[Ij ak]at this
   refine rb (rc ae ae Tg (re ae ?_));have ami:∀c,nN H f (c+1)=sc p f (nN H f c) x:=λc=>by rw[←hxx];rfl
   refine aj (rr ae (aH (bA (α:=Nat) (λi=>⟨[(1,.c (.P 0 0)),(3,cI n),(4,.c (.P 3009000 0)),(5,.c (.L 1000 0 n (some n))),(7,.c (.P 7002000 0)),(46,cI n),(47,cI i)],[(0,.box 101 0 [.S aM f,.I .u64 p]),(3009000,.box 101 0 [.S aM x,.I .u64 p]),(7002000,.box 101 0 [.S aM (nN H f i),.I .u64 p])]++fg 1000 22 n 25 aM (kL p n (nN H f) i),9,[]⟩) (λi=>i≤n) (λi=>n-i) 0 (bK _) ?_ ?_)))
   ·refine iD ⟨sR ae,sR ae,sR ae,sR ae,sR ae,sR ae,sR ae,ah⟩ ⟨bE ae ae,bE ae ae,bE ae ae,ah⟩ (ay (λz=>some (aK.box 22 0 z)) (alT n)) (λq hq=>?_) af;rw[amg];(repeat(refine(bH af).trans ?_));exact cw (f:=λ_=>List.replicate n 0) af
   intro i hin;obtain⟨q1,q2,q3⟩:=hi i;generalize hI:nN H f=im at*;have uB:(0:Int)≤(i:Int):=af;have atz:(im i).length≤n:=af;refine rr ae (aj (ax ae (λh4=>?_) (λh4=>?_)))
   ·have nP:i<n:=by have h4:(i:Int)<(n:Int):=a9 h4;omega
    have uB:(0:Int)≤(i:Int)∧(i:Int)<(n:Int):=⟨by omega,by omega⟩;refine aC (ai (aj (aH (rr ae (aj (rr ae (aH (bA (α:=Nat) (λj=>⟨[(1,.c (.P 0 0)),(3,cI n),(4,.c (.P 3009000 0)),(5,.c (.L 1000 0 n (some n))),(7,.c (.P 7002000 0)),(46,cI n),(47,cI i),(8,cI i),(52,cI (im i).length),(53,cI j)],[(0,.box 101 0 [.S aM f,.I .u64 p]),(3009000,.box 101 0 [.S aM x,.I .u64 p]),(7002000,.box 101 0 [.S aM (im i),.I .u64 p])]++fg 1000 22 n 25 aM (mO p n im i j),12,[]⟩) (λj=>j≤(im i).length) (λj=>(im i).length-j) 0 (bK _) ?_ ?_))))))))
    ·refine iD ⟨sR ae,sR ae,sR ae,sR ae,sR ae,sR ae,sR ae,sR ae,sR ae,sR ae,ah⟩ ⟨bR ae,bR ae,bR ae,ah⟩ ae (λq hq=>?_) af;rw[al'];exact cC
    intro j hj;refine rr ae (aj (ax ae (λh5=>?_) (λh5=>?_)))
    ·have nk:j<(im i).length:=by have h5:(j:Int)<((im i).length:Int):=a9 h5;omega
     have AN:j<n:=af;have hbj:(0:Int)≤(j:Int)∧(j:Int)<(n:Int):=⟨by omega,by omega⟩;have TB:=Tw p n im i j j;refine aC (ai (aj (aH (rr ae ?_))));refine cK (iV ae ae hbj (mL ar (c:= .X (1+j)) ae ae (tx AN) ae (rk 6 ae ae (qV ar (T:=aM) (xs:=mO p n im i j j) ae cC ae ae af af ?_) (hp:=aN))));refine BT ar (T:=aM) (id:=1+j) (xs:=mO p n im i j j) ae cC ae ae ae ((im i).getD j 0) ?_ Pd ?_
     ·show some [C.I .u64 ((im i).getD ((j:Int)).toNat 0)]=_;rw[bu];rfl
     refine re ae ?_ (ho:=qX fR);refine a6 (ai (rt ae (hp:=aN) (a8 (j+1) nk (by show(im i).length-(j+1)<(im i).length-j;omega) (iD ⟨sR ae,sR ae,sR ae,sR ae,sR ae,sR ae,sR ae,sR ae,sR ae,sR ae,ah⟩ ⟨⟨_,(bH af).trans ae,di.refl _⟩,⟨_,(bH af).trans ae,di.refl _⟩,⟨_,(bH af).trans ae,di.refl _⟩,ah⟩ ((bH af).trans ae) (λq hq=>?_) af))));rw[←amb];by_cases e:q=j
     ·subst e;refine CF.trans (ay (λz=>some (aK.vec 25 aM z)) ?_);rw[bu,AM,ama]
     ·refine(bH af).trans (Eq.trans (cC) (ay (λz=>some (aK.vec 25 aM z)) ?_));rw[CM _ _ e]
    ·have nk:j=(im i).length:=by have h5:¬(j:Int)<((im i).length:Int):=bC h5;omega
     subst nk;refine bh (bt (bq (bp (ai ?_))));have TB:=Tw p n im i (im i).length i;have hPx:(mO p n im i (im i).length i).getD ((i:Int)).toNat 0=(im i).getD i 0:=by rw[bu,Tx nP nP,aw ae]
     have lW:=q1.1 i;have yV:aG Tryz.prog 159 [aP f p,aP (im i) p,aP x p] (aP (sc p f (im i) x) p):=Im p H.hp H.le f (im i) x af af af hf.c q1 m1 hf.ne;refine rb (iV ae ae uB (mL ar (c:= .X (1+i)) ae ae (tx nP) ae (iV ae ae uB (mL ar (c:= .X (1+i)) ae ae (tx nP) ae (rk 1 ae ae (qV ar (T:=aM) (xs:=mO p n im i (im i).length i) ae cC ae ae af af (yQ ar ae cC ae ae ae Pd (rk 7 ae ae ?_ (hp:=aN)))))))));refine qV ar (T:=aM) (xs:=mO p n im i (im i).length i) ae cC ae ae af af ?_;refine BT ar (T:=aM) (id:=1+i) (xs:=mO p n im i (im i).length i) ae cC ae ae ae (((im i).getD i 0+(p:Int)-1)%(p:Int)) ?_ Pd ?_
     ·show some [C.I .u64 ((IntKind.wrap .u64 (IntKind.wrap .u64 ((mO p n im i (im i).length i).getD ((i:Int)).toNat 0+(p:Int))-1)).tmod (p:Int))]=_;rw[hPx,wrap_u64 ((im i).getD i 0+(p:Int)) af af,wrap_u64 _ af af,rB af];rfl
     refine re ae (dy (iD (sl':=[(1,.c (.P 0 0)),(3,cI n),(4,.c (.P 3009000 0)),(5,.c (.L 1000 0 n (some n))),(7,.c (.P 7002000 0)),(46,cI n),(47,cI i)]) (conc:=[(0,.box 101 0 [.S aM f,.I .u64 p]),(3009000,.box 101 0 [.S aM x,.I .u64 p]),(7002000,.box 101 0 [.S aM (im i),.I .u64 p])]) (nx':=14) (gd':=[]) (o:=1000) (E0:=22) (r:=n) (E:=25) (T:=aM) (f:=kL p n im (i+1)) ⟨sR ae,sR ae,sR ae,sR ae,sR ae,sR ae,sR ae,ah⟩ ⟨⟨_,(bH af).trans ae,di.refl _⟩,⟨_,(bH af).trans ae,di.refl _⟩,⟨_,(bH af).trans ae,di.refl _⟩,ah⟩ ((bH af).trans ae) (λq hq=>?_) af) ?_) (ho:=qX fR)
     ·rw[←amc nP q hq];by_cases e:q=i
      ·subst e;refine CF.trans (ay (λz=>some (aK.vec 25 aM z)) ?_);rw[bu,AM]
      ·refine(bH af).trans (Eq.trans (cC) (ay (λz=>some (aK.vec 25 aM z)) ?_));rw[CM _ _ e]
     refine cK (rc ae ae yV (re ae ?_));refine a6 (ai (rt ae (hp:=aN) (a8 (i+1) nP Pc (iD ⟨sR ae,sR ae,sR ae,sR ae,sR ae,sR ae,sR ae,ah⟩ ⟨bR ae,bR ae,bE ae ?_,ah⟩ ae (λq hq=>cC) af))));rw[ami];rfl
   ·have nP:i=n:=by have h4:¬(i:Int)<(n:Int):=bC h4;omega
    subst nP;refine bh (bt (bq (bp (ai ?_))));have IS:Fj Tryz.prog 183 [.c (.L 1000 0 i (some i)),cU p] (fg 1000 22 i 25 aM (kL p i im i)) (cS (.sl aM) (q9 H f)):=by rw[qq];exact al0 H (abj H (λc=>(hi c).1.1) i) af af
    generalize q9 H f=KL at*;refine rb (rl PT [(f,(p:Int))] ae ae (re ae ?_));refine aj (rb (rcc (conc:=[(0,.box 101 0 [.S aM f,.I .u64 p]),(3009000,.box 101 0 [.S aM x,.I .u64 p]),(7002000,.box 101 0 [.S aM (im i),.I .u64 p])]) (fm:=fg 1000 22 i 25 aM (kL p i im i)) ae ae IS (amf ae ae af) (re ae ?_)));have tj:∀q,q≤KL.length→(mQ H f KL q).length+1≤f.length:=λq hq=>(M9 H CN q hq).len H hf
    refine aH (bA (α:=Nat) (λq=>⟨[(1,.c (.P 0 0)),(10,cS PT (lP p (mQ H f KL q))),(98,cS (.sl aM) KL),(99,cI KL.length),(100,cI q)],[(0,.box 101 0 [.S aM f,.I .u64 p])],12,[]⟩) (λq=>q≤KL.length) (λq=>KL.length-q) 0 (bK _) bY ?_);intro q hq;refine rr ae (aj (ax ae (λh5=>?_) (λh5=>?_)))
    ·have rW:q<KL.length:=by have h5:(q:Int)<(KL.length:Int):=a9 h5;omega
     have hI:=M9 H CN q hq;have xy:=hI.pre H CN rW;have hln:=tj q hq;obtain⟨v1,v2,_⟩:=CN.v q rW;have Ao:mQ H f KL (q+1)=(mQ H f KL q).flatMap λg=>tA H g (a7 (KL.getD q [])):=rfl
     generalize mQ H f KL q=l at*;have hvq:KL.getD ((q:Int)).toNat []=KL.getD q []:=by rw[bu]
     generalize KL.getD q []=v at*;have amn:aG Tryz.prog 61 [cS aM v,cU p] (aP (a7 v) p):=by have:=Ss v p af H.pos af (λi=>(v1 i).1);rwa[ZH v1]at this
     have amo:=Nb p l;refine aC (ai (aj (aH (rr ae (rr ae (aj (rr ae (aH (bA (α:=Nat) (λj=>⟨[(1,.c (.P 0 0)),(98,cS (.sl aM) KL),(99,cI KL.length),(100,cI q),(12,cS aM v),(13,.c (.X 16000000)),(104,cS PT (lP p l)),(105,cI l.length),(106,cI j)],[(16000000,.vec 101 PT (lP p ((l.take j).flatMap λg=>tA H g (a7 v)))),(0,.box 101 0 [.S aM f,.I .u64 p])],17,[]⟩) (λj=>j≤l.length) (λj=>l.length-j) 0 (bK _) ?_ ?_)))))))))
     ·exact tv 16000000 101 PT ⟨.inl (sR ae),.inl (sR ae),.inl (sR ae),.inl (sR ae),.inl ⟨_,ae,au.of_eq (ay (cS aM) hvq)⟩,.inr ⟨ae,ae⟩,.inl (sR ae),.inl ⟨_,ae,au.of_eq (ay (λz:Nat=>cI (z:Int)) amo)⟩,.inl (sR ae),ah⟩ ⟨bR ae,ah⟩ ae (eQ.of ae)
     intro j hj;refine rr ae (aj (ax ae (λh6=>?_) (λh6=>?_)))
     ·have nk:j<l.length:=by have h6:(j:Int)<(l.length:Int):=a9 h6;omega
      have hm:l[j]∈l:=k6 nk;obtain⟨s1,s2,s3⟩:=M7 H (xy _ hm);have jP:=(xy _ hm).IW;have hg:(lP p l).getD ((j:Int)).toNat ([],0)=(l[j],(p:Int)):=by rw[bu,abo nk]
      have oQ:(lP p ((l.take j).flatMap λg=>tA H g (a7 v))).length≤200*200:=by
       rw[Nb];have h1:=abl (φ:=λg=>tA H g (a7 v)) (b:=200) (l:=l.take j) λg hg=>by have hg:=Kx hg;have:=(M7 H (xy g hg)).2.1;have:=(xy g hg).IW;show(tA H g (a7 v)).length≤200;omega
       have h2:(l.take j).length≤200:=zt;have h3:=eJ 200 h2;omega
      have xx:=Nb p (tA H l[j] (a7 v));have amp:aG Tryz.prog 184 [.a (av PT ((lP p l).getD ((j:Int)).toNat ([],0))),aP (a7 v) p] (cS PT (lP p (tA H l[j] (a7 v)))):=by rw[hg];exact s3.fs
      refine aC (ai (aj (aH (rr ae (cK (rc ae ae amn (rc ae ae amp (ra ae ae ae ae ae ae ae ae ae ?_ ?_ (re ae ?_)))))))))
      ·show(_+_+(_+_)/4+192)*32≤_;omega
      ·show(_+_)*2≤_;omega
      refine a6 (ai (rt ae (hp:=aN) (a8 (j+1) nk Wp (Wk.trans (wk (st':=⟨[(1,.c (.P 0 0)),(98,cS (.sl aM) KL),(99,cI KL.length),(100,cI q),(12,cS aM v),(13,.c (.X 19007000)),(104,cS PT (lP p l)),(105,cI l.length),(106,cI ((j+1:Nat):Int))],[(19007000,.vec 101 PT (lP p ((l.take (j+1)).flatMap λg=>tA H g (a7 v)))),(0,.box 101 0 [.S aM f,.I .u64 p])],21,[]⟩) ⟨sR ae,sR ae,sR ae,sR ae,sR ae,sR ae,sR ae,sR ae,sR ae,ah⟩ ⟨bE ae ?_,bE ae ae,ah⟩) (Wk.trans (qI 16000000 19007000 ae ae ae) bY)))));refine ay (aK.vec 101 PT) ?_;rw[uV,cr nk,zw,lP,lP,lP,eh];simp
     ·have nk:j=l.length:=by have h6:¬(j:Int)<(l.length:Int):=bC h6;omega
      subst nk;rw[iK,←Ao];exact bh (bt (bq (bp (ai (fY 16000000 ae ae ae (rt ae (a6 (ai (rt ae (hp:=aN) (a8 (q+1) rW (by show KL.length-(q+1)<KL.length-q;omega) bY))))))))))
    ·have rW:q=KL.length:=by have h5:¬(q:Int)<(KL.length:Int):=bC h5;omega
     subst rW;exact bh (bt (bq (bp (ai (rr ae (aF (aL ar ae (au.refl _))))))))
def fC(p:Nat)(f:List Int):List Int:=(List.range (f.length-1)).map λi=>((((i+1)%p:Nat):Int)*f.getD (i+1) 0)%(p:Int)
def IZ(p:Nat)(f:List Int):(fC p f).length=f.length-1:=by simp[fC]
def TC(p:Nat)(f:List Int){i:Nat}(h:i<f.length-1):(fC p f).getD i 0=((((i+1)%p:Nat):Int)*f.getD (i+1) 0)%(p:Int):=by unfold fC;rw[aU,kc,oI h];rfl
def TD(p:Nat)(f:List Int):(fx (fC p f):Fx p)=bG (fx f):=mk_eq.2 (Cg.of λi=>by
 show(fC p f).getD i 0%(p:Int)=((i:Int)+1)*f.getD (i+1) 0%(p:Int);by_cases h:i<f.length-1
 ·rw[TC p f h,k8,GH,mY,k8,←mY];rfl
 ·rw[dH _ (by rw[IZ];omega),dH f af,et])
def Nc{p:Nat}(hp:0<p)(f:List Int):rp p (fC p f):=λi=>by
 by_cases h:i<f.length-1
 ·rw[TC p f h];exact⟨gZ _ af,iv _ af⟩
 ·rw[dH _ (by rw[IZ];omega)];exact⟨jB _,by omega⟩
set_option maxHeartbeats 4000000 in
def abu{p:Nat}(H:bI p)(f:List Int)(lf:f.length≤200)(hf:rp p f):
  aG Tryz.prog 126 [aP f p] (aP (a7 (fC p f)) p):=by
 refine aX Tryz.func126 ae ae ae ae ae ak ?_
 have h2:=H.hp.1
 have hle:=H.le
 have vE:(p:Int)≠0:=af
 have Nd:=IZ p f
 refine rr ae (rr ae (aj (rr ae ?_)))
 refine aH (bA (α:=Nat) (λj=>⟨[(1,.c (.P 0 0)),(2,.c (.P 1000 0)),(3,.c (.X 3000000)),(4,cI j)],[(3000000,.vec 25 aM ((fC p f).take (j-1))),(0,.box 101 0 [.S aM f,.I .u64 p]),(1000,.box 101 0 [.V (.slice none 0 0),.I .u64 0])],4,[]⟩) (λj=>1≤j∧j-1≤f.length-1) (λj=>f.length-j) 1 ⟨bD _,bK _⟩ ?_ ?_)
 ·exact tv 3000000 25 aM ⟨.inl (sR ae),.inl (sR ae),.inr ⟨ae,ae⟩,.inl (sR ae),ah⟩ ⟨bE ae ae,bE ae ae,ah⟩ ae (eQ.of ae)
 rintro j ⟨fo,hj⟩
 have hl:((fC p f).take (j-1)).length=j-1:=cT
 refine aj (rr ae (ax ae (λh=>?_) (λh=>?_)))
 ·have h:j<f.length:=by have h:(j:Int)<(f.length:Int):=a9 h;omega
  have gf:=hf j;refine aC (ai (aj (aH (cK ?_))));refine rl aM [_] ae ae (hp:=aN) (ra ae ae ae ae ae ae ae ae ae ?_ ?_ (re ae ?_))
  ·show(_+1+(_+1)/4+192)*8≤_;omega
  ·show(_+1)*1≤_;omega
  refine a6 (ai (rt ae (hp:=aN) (a8 (j+1) ⟨by omega,by show j+1-1≤f.length-1;omega⟩ (by show f.length-(j+1)<f.length-j;omega) (Wk.trans (wk (st':=⟨[(1,.c (.P 0 0)),(2,.c (.P 1000 0)),(3,.c (.X 5016000)),(4,cI ((j+1:Nat):Int))],[(5016000,.vec 25 aM ((fC p f).take (j+1-1))),(0,.box 101 0 [.S aM f,.I .u64 p]),(1000,.box 101 0 [.V (.slice none 0 0),.I .u64 0])],7,[]⟩) ⟨sR ae,sR ae,sR ae,sR ae,ah⟩ ⟨bE ae ?_,bE ae ae,bE ae ae,ah⟩) (Wk.trans (qI 3000000 5016000 ae ae ae) bY)))));refine ay (aK.vec 25 aM) ?_;obtain⟨i,rfl⟩:∃i,j=i+1:=⟨j-1,by omega⟩;rw[iY,iY,pQ _ i af,TC p f af,bu];have e1:((i+1:Nat):Int).tmod (p:Int)=(((i+1)%p:Nat):Int):=lC (i+1) p;have e2:=iy (i+1) (show 0<p by omega);rw[wrap_u64 ((i+1:Nat):Int) af af,e1,R8 _ _ _ ⟨by omega,by omega⟩ gf af]
 ·have h:j-1=f.length-1:=by have h:¬(j:Int)<(f.length:Int):=bC h;omega
  rw[h,lI (show(fC p f).length≤f.length-1 by omega)];exact bh (bt (bq (bp (ai (fY 3000000 ae ae ae (rb (rc ae ae (ER (fC p f) p af) (re ae (aF (aL ar ae (au.refl _)))))))))))
abbrev MT:ET:= .pr (.sl aM) dZ
def kM(p:Nat):List (List Int×Int)→Fx p
 |[]=>1
 |x::l=>pk (fx x.1) x.2.toNat*kM p l
def abv(p:Nat)(x:List Int×Int):∀l,kM p (l++[x])=kM p l*pk (fx x.1) x.2.toNat
 |[]=>by show pk (fx x.1) x.2.toNat*1=1*pk (fx x.1) x.2.toNat;rw[mul_one,one_mul]
 |y::l=>by rw[mX,kM,kM,abv p x l,mul_assoc]
def pull(p:Nat)(g:List Int):Nat→List Int→Nat→List Int×Nat
 |0,f,n=>(f,n)
 |k+1,f,n=>if(bM f g p).2=[]then pull p g k (bM f g p).1 (n+1)else(f,n)
def TE{p:Nat}(H:bI p){g:List Int}(hg:Mon p g)(Ad:2≤g.length):∀(k:Nat)(f:List Int)(n:Nat),f.length<k→Mon p f→Mon p (pull p g k f n).1∧(fx f:Fx p)*pk (fx g) n=fx (pull p g k f n).1*pk (fx g) (pull p g k f n).2∧¬(fx g:Fx p)∣fx (pull p g k f n).1∧n≤(pull p g k f n).2∧((fx g:Fx p)∣fx f→n+1≤(pull p g k f n).2∧(pull p g k f n).1.length<f.length)∧(pull p g k f n).1.length≤f.length
 |0,_,_,h,_=>by omega
 |k+1,f,n,h,hf=>by
  rw[pull];split
  ·rename_i e;have hd:=(Mz H hf.c hg.c hg.ne).1 e;have he:=AJ H hf.c hg.c hg.ne hd;have jP:g.length≤f.length:=by have:=j3 H hd (hf.nj H);rwa[dj hg.c,dj hf.c]at this
   have hq:=My H hf hg jP;obtain⟨_,_,_,_,_,rW⟩:=lD H.hp H.le hf.c.1 hg.c hg.ne;have br:(bM f g p).1.length<f.length:=af;obtain⟨i1,i2,i3,i4,i5,i6⟩:=TE H hg Ad k (bM f g p).1 (n+1) af hq;refine⟨i1,?_,i3,by omega,λ_=>⟨by omega,by omega⟩,by omega⟩;rw[←i2,he,pk];ac_rfl
  ·rename_i e;have hd:¬(fx g:Fx p)∣fx f:=λh=>e ((Mz H hf.c hg.c hg.ne).2 h)
   exact⟨hf,ae,hd,bD _,λh=>absurd h hd,bD _⟩
structure oo(p:Nat)(F0:Fx p)(f:List Int)(m:Nat)(l:List (List Int×Int)):Prop where
 bT:Mon p f
 prod:F0=pk (fx f) m*kM p l
 ig:∀x∈l,Mon p x.1∧2≤x.1.length∧cj (fx x.1:Fx p)∧1≤x.2
 nd:∀x∈l,¬(fx x.1:Fx p)∣fx f
 ds:l.Pairwise λx y=>x.1≠y.1
 m1:1≤m
def TF{p:Nat}(H:bI p){Q:Fx p}(h:2≤sz Q):∀m,m+1≤sz (pk Q m)
 |0=>by rw[pk,oY H];exact bD _
 |m+1=>by
  have h0:Q≠0:=λe=>by rw[e,kJ H.pos]at h;omega
  have h1:=eH H (tu H h0 m) h0;have h2:=TF H h m;rw[pk];omega
def abw{p:Nat}(H:bI p):∀{l:List (List Int×Int)},(∀x∈l,Mon p x.1∧2≤x.1.length∧1≤x.2)→kM p l≠0∧l.length+1≤sz (kM p l)∧∀x∈l,x.2+1≤sz (kM p l)
 |[],_=>⟨oh H,by rw[kM,oY H];exact bD _,λx hx=>by cases hx⟩
 |y::l,h=>by
  obtain⟨h1,h2,h3⟩:=abw H (l:=l) λx hx=>h x kZ
  obtain⟨m1,m2,m3⟩:=h y be;have hy:(fx y.1:Fx p)≠0:=m1.nj H;have h4:=TF H (show 2≤sz (fx y.1:Fx p)by rw[dj m1.c];exact m2) y.2.toNat;have h5:=eH H (tu H hy y.2.toNat) h1;have h6:=eP H.pos h1;refine⟨oX H (tu H hy _) h1,?_,λx hx=>?_⟩
  ·rw[kM,fv];omega
  ·rw[kM];rcases dC.1 hx with rfl|hx
   ·omega
   ·have:=h3 x hx;omega
def oo.bounds{p:Nat}(H:bI p){F0:Fx p}{f:List Int}{m:Nat}{l:List (List Int×Int)}(h:oo p F0 f m l):l.length+1≤sz F0∧(∀x∈l,x.2+1≤sz F0)∧(2≤f.length→m+1≤sz F0):=by
 obtain⟨h1,h2,h3⟩:=abw H (l:=l) λx hx=>⟨(h.ig x hx).1,(h.ig x hx).2.1,(h.ig x hx).2.2.2⟩
 have h4:=eH H (tu H (h.bT.nj H) m) h1;have h5:=eP H.pos (tu H (h.bT.nj H) m);rw[←h.prod]at h4;refine⟨by omega,λx hx=>by have:=h3 x hx;omega,λh6=>?_⟩;have h7:=TF H (show 2≤sz (fx f:Fx p)by rw[dj h.bT.c];exact h6) m;omega
def oo.start{p:Nat}{f:List Int}(hf:Mon p f):oo p (fx f) f 1 [] where
 bT:=hf
 prod:=by rw[Cu,kM,mul_one]
 ig:=λx hx=>by cases hx
 nd:=λx hx=>by cases hx
 ds:=List.Pairwise.nil
 m1:=bD _
def iq(p n:Nat):Nat:=(n+p-1)/p
def TG{p:Nat}(H:bI p){f:List Int}(hf:Mon p f)(h2:2≤f.length)(hd:bG (fx f:Fx p)=0):Mon p (jQ p f (iq p f.length))∧(fx f:Fx p)=pk (fx (jQ p f (iq p f.length))) p∧2≤(jQ p f (iq p f.length)).length∧(jQ p f (iq p f.length)).length<f.length:=by
 have iN:=H.hp.1;have hlen:(jQ p f (iq p f.length)).length=iq p f.length:=by simp[jQ]
 have gT:f.length≤iq p f.length*p:=by unfold iq;have:=xU (f.length+p-1) p;have:=iy (f.length+p-1) (show 0<p by omega);rw[ix];omega
 have IY:=Fx.pth H hd gT;have yy:(f.length-1)%p=0:=gE λhn=>by
  have h0:=mk_eq.1 (hd:mk (r9 (ps f)) (yP (aY.ps p f))=mk 0 (aY.zero p));have h1:=h0.at (f.length-2);rw[PS.lZ,dk]at h1;have h3:((f.length-2:Nat):Int)+1=((f.length-1:Nat):Int):=af;have h4:r9 (ps f) (f.length-2)=((f.length-1:Nat):Int)*1:=by show(((f.length-2:Nat):Int)+1)*f.getD (f.length-2+1) 0=_;rw[h3,show f.length-2+1=f.length-1 by omega,hf.one]
  rw[h4,ns]at h1;omega
 obtain⟨t,ht⟩:∃t,f.length-1=t*p:=⟨(f.length-1)/p,by have:=xU (f.length-1) p;rw[ix];omega⟩;have hkt:iq p f.length=t+1:=by unfold iq;rw[show f.length+p-1=t*p+p by omega,show t*p+p=(t+1)*p by rw[fV,jb]];exact WO _ af
 have EK:1≤t:=by
  rcases wE t with e|e
  ·subst e;omega
  ·exact e
 have htp:t*2≤t*p:=lJ t iN;have m7:∀i,(jQ p f (iq p f.length)).getD i 0=if i<iq p f.length then f.getD (i*p) 0 else 0:=λi=>by
  by_cases hi:i<iq p f.length
  ·rw[aw hi];exact MS _ hi
  ·rw[aq hi,dH _ af]
 have iO:(jQ p f (iq p f.length)).getD ((jQ p f (iq p f.length)).length-1) 0=1:=by rw[hlen,m7,aw af,hkt,iY,←ht,hf.one]
 refine⟨⟨⟨λi=>?_,.inr (by rw[iO];decide)⟩,λe=>by rw[e]at hlen;simp at hlen;omega,iO⟩,IY,by omega,by omega⟩;rw[m7];split
 ·exact hf.c.1 _
 ·exact⟨jB _,H.pos⟩
def oo.root{p:Nat}(H:bI p){F0:Fx p}{f:List Int}{m:Nat}{l:List (List Int×Int)}(h:oo p F0 f m l)(h2:2≤f.length)(hd:bG (fx f:Fx p)=0):oo p F0 (jQ p f (iq p f.length)) (m*p) l:=by
 obtain⟨e1,e2,e3,e4⟩:=TG H h.bT h2 hd;refine⟨e1,?_,h.ig,λx hx jF=>h.nd x hx ?_,h.ds,?_⟩
 ·rw[h.prod,ix,Cv,←e2]
 ·rw[e2];obtain⟨q,hq⟩:∃q,p=q+1:=⟨p-1,by have:=H.hp.1;omega⟩;have:(fx (jQ p f (iq p f.length)):Fx p)∣pk (fx (jQ p f (iq p f.length))) p:=by
   have e:pk (fx (jQ p f (iq p f.length)):Fx p) p=pk (fx (jQ p f (iq p f.length))) (q+1):=by rw[←hq]
   rw[e];exact dvd_mul_left _ _
  exact dvd_trans jF this
 ·have:=H.hp.1;have:=h.m1;exact zG af af
structure FC(p:Nat)(f:List Int)(rs:List (List Int)):Prop where
 ok:∀g∈rs,Mon p g∧2≤g.length∧cj (fx g:Fx p)∧(fx g:Fx p)∣fx f
 ds:rs.Pairwise λx y=>x≠y
def amr{p:Nat}(H:bI p){a b:List Int}(ha:Mon p a)(hb:Mon p b)(hi:cj (fx b:Fx p))(wU:2≤a.length)(h:(fx a:Fx p)∣fx b):a=b:=by
 obtain⟨w,hw⟩:=h;have sM:sz (fx a:Fx p)≠1:=by rw[dj ha.c];omega
 rcases hi.2 _ _ hw with e|e
 ·obtain⟨c,hc,rfl⟩:=E7 H e;have h1:=eH H (tq H hc) (ha.nj H);rw[←hw,dj hb.c,dj ha.c,ts H hc]at h1;have hl:b.length=a.length:=af;have h2:(ps b) (a.length-1)%(p:Int)=(PS.K c*ps a) (a.length-1)%(p:Int):=(mk_eq.1 (show(mk (ps b) (aY.ps p b):Fx p)=mk (PS.K c*ps a) ((aY.K p c).mul (aY.ps p a))from hw)).at _;rw[PS.gw,dV,dV,ha.one,←hl,hb.one,ns]at h2;have e3:(K c:Fx p)=1:=by rw[←l7];exact uy h2.symm
  rw[e3,one_mul]at hw;exact(xo hb.c ha.c hw).symm
 ·exact absurd e sM
def abx{p:Nat}(H:bI p){Q A:Fx p}(hQ:cj Q):∀n,Q∣pk A n→Q∣A
 |0,h=>absurd h (hQ.xq H)
 |n+1,h=>by
  rcases hQ.r6 H (show Q∣pk A n*A from h)with e|e
  ·exact abx H hQ n e
  ·exact e
def oo.pull{p:Nat}(H:bI p){F0:Fx p}{f:List Int}{m:Nat}{l:List (List Int×Int)}(h:oo p F0 f m l){g:List Int}{rs:List (List Int)}(hr:FC p f (g::rs)):
  oo p F0 (pull p g (f.length+1) f 0).1 m (l++[(g,(((pull p g (f.length+1) f 0).2:Nat):Int)*(m:Int))])∧FC p (pull p g (f.length+1) f 0).1 rs∧(pull p g (f.length+1) f 0).1.length<f.length:=by
 obtain⟨g1,g2,g3,g4⟩:=hr.ok g be
 obtain⟨q1,q2,q3,q4,q5,q6⟩:=TE H g1 g2 (f.length+1) f 0 (fT _) h.bT
 obtain⟨q7,q8⟩:=q5 g4
 generalize Go.El.pull p g (f.length+1) f 0=x at*
 obtain⟨f',n⟩:=x
 simp only at q1 q2 q3 q4 q5 q6 q7 q8⊢
 rw[pk,mul_one]at q2
 obtain⟨d1,d2⟩:=jW.1 hr.ds
 have Lb:(fx f':Fx p)∣fx f:=by rw[q2];exact dvd_mul_right _ _
 refine⟨⟨q1,?_,?_,?_,?_,h.m1⟩,⟨λk hk=>?_,d2⟩,q8⟩
 ·rw[h.prod,q2,abv,xm];have e:((n:Int)*(m:Int)).toNat=n*m:=by rw[←gi,bu]
  simp only[e,Cv];ac_rfl
 ·intro x hx;rcases b6.1 hx with hx|hx
  ·exact h.ig x hx
  ·have e:=jJ.1 hx;subst e;refine⟨g1,g2,g3,?_⟩;have:=zG (show 0<n by omega) (show 0<m from h.m1);show(1:Int)≤(n:Int)*(m:Int);rw[←gi];omega
 ·intro x hx;rcases b6.1 hx with hx|hx
  ·exact λhd=>h.nd x hx (dvd_trans hd Lb)
  ·have e:=jJ.1 hx;subst e;exact q3
 ·refine Bh.2 ⟨h.ds,Pl _ _,λx hx y hy e=>?_⟩;have e2:=jJ.1 hy;subst e2;exact h.nd x hx (by rw[e];exact g4)
 ·obtain⟨k1,k2,k3,k4⟩:=hr.ok k (by simp[hk]);refine⟨k1,k2,k3,?_⟩;rw[q2]at k4;rcases k3.r6 H k4 with e|e
  ·exact e
  ·exact absurd (amr H k1 g1 g3 k2 (abx H k3 n e)).symm (d1 k hk)
def jf(p:Nat)(f:List Int):List Int:=(bM f (gx p f (a7 (fC p f))) p).1
def ams{p:Nat}(H:bI p){f:List Int}(hf:Mon p f)(h2:2≤f.length)(hd:a7 (fC p f)≠[]):Mon p (jf p f)∧2≤(jf p f).length∧(jf p f).length≤f.length∧lE (fx (jf p f):Fx p)∧(fx (jf p f):Fx p)∣fx f∧FC p f (nO H (jf p f)|>.filter λ_=>true)∨200<f.length:=by
 by_cases sf:f.length≤200
 ·left;have qY:bX p (a7 (fC p f)):=nJ H.pos (Nc xN f);have BC:(fx (a7 (fC p f)):Fx p)=bG (fx f):=by rw[xn,TD]
  obtain⟨m1,m2,m3,U,V,m4⟩:=Ff H hf.c qY hf.ne;have vA:(fx (a7 (fC p f)):Fx p)≠0:=λe=>by rw[←og]at e;exact hd (xo qY (vI H.pos) e)
  have jP:(gx p f (a7 (fC p f))).length≤f.length-1:=by have h1:=j3 H m3 vA;have h2:=Iw H (fx f:Fx p);rw[←BC,dj hf.c]at h2;rw[dj m1.c]at h1;omega
  have hq:=My H hf m1 af;have he:=AJ H hf.c m1.c m1.ne m2;obtain⟨_,_,_,_,_,rW⟩:=lD H.hp H.le hf.c.1 m1.c m1.ne;have pg:=m1.pos;have qT:lE (fx (jf p f):Fx p):=aae H (hf.nj H) he (by rw[←BC];exact m4);have hwf:(fx (jf p f):Fx p)∣fx f:=by rw[he];exact dvd_mul_right _ _
  have hlen:(jf p f).length=f.length-((gx p f (a7 (fC p f))).length-1):=rW;have hS:=Tz H hq (by show 2≤(jf p f).length;omega) (by show(jf p f).length≤200;omega) qT;have hS:Na p (jf p f) (nO H (jf p f)):=hS;refine⟨hq,by omega,by omega,qT,hwf,?_⟩;rw[List.filter_eq_self.2 λ_ _=>rfl];refine⟨λg hg=>?_,?_⟩
  ·obtain⟨g1,g2,g3⟩:=hS.parts g hg;exact⟨g1,g2,g3,dvd_trans (by rw[←hS.prod];exact Fm p hg) hwf⟩
  ·have key:∀l:List (List Int),(∀g∈l,cj (fx g:Fx p))→j5 p l∣fx (jf p f)→l.Pairwise λx y=>x≠y:=by
    intro l;induction l with
    |nil=>intro _ _;exact List.Pairwise.nil
    |cons g l ih=>
     intro hi jF
     refine jW.2 ⟨λk hk e=>?_,ih (λx hx=>hi x kZ) (dvd_trans (dvd_mul_left _ _) jF)⟩
     subst e
     exact qT _ (hi g be) (dvd_trans (xr (dvd_refl _) (Fm p hk)) jF)
   exact key _ (λg hg=>(hS.parts g hg).2.2) (by rw[hS.prod];exact dvd_refl _)
 ·right;omega
noncomputable def oN(p:Nat)(m:Nat):List (List Int)→List Int×List (List Int×Int)→List Int×List (List Int×Int)
 |[],x=>x
 |g::rs,x=>oN p m rs ((pull p g (x.1.length+1) x.1 0).1,x.2++[(g,(((pull p g (x.1.length+1) x.1 0).2:Nat):Int)*(m:Int))])
def TH{p:Nat}(H:bI p){F0:Fx p}{m:Nat}:∀(rs:List (List Int))(f:List Int)(l:List (List Int×Int)),oo p F0 f m l→FC p f rs→oo p F0 (oN p m rs (f,l)).1 m (oN p m rs (f,l)).2∧(oN p m rs (f,l)).1.length≤f.length∧(rs≠[]→(oN p m rs (f,l)).1.length<f.length)
 |[],_,_,h,_=>⟨h,bD _,λe=>absurd ae e⟩
 |g::rs,f,l,h,hr=>by obtain⟨i1,i2,i3⟩:=h.pull H hr;obtain⟨j1,j2,_⟩:=TH H rs _ _ i1 i2;rw[oN];exact⟨j1,by simp only at j2⊢;omega,λ_=>by simp only at j2⊢;omega⟩
noncomputable def rh{p:Nat}(H:bI p):Nat→List Int→Nat→List (List Int×Int)→List (List Int×Int)
 |0,_,_,l=>l
 |k+1,f,m,l=>if f.length≤1 then l else if a7 (fC p f)=[]then rh H k (jQ p f (iq p f.length)) (m*p) l else rh H k (oN p m (nO H (jf p f)) (f,l)).1 m (oN p m (nO H (jf p f)) (f,l)).2
def abz{p:Nat}(H:bI p){f:List Int}(hf:Mon p f)(h2:2≤f.length)(sf:f.length≤200)(hd:a7 (fC p f)≠[]):Mon p (jf p f)∧2≤(jf p f).length∧(jf p f).length≤f.length∧lE (fx (jf p f):Fx p)∧(fx (jf p f):Fx p)∣fx f∧FC p f (nO H (jf p f))∧nO H (jf p f)≠[]∧(nO H (jf p f)).length≤200:=by
 rcases ams H hf h2 hd with h|h
 ·obtain⟨h1,h3,h4,h5,h6,h7⟩:=h;rw[List.filter_eq_self.2 λ_ _=>rfl]at h7;have hS:=Tz H h1 h3 af h5;refine⟨h1,h3,h4,h5,h6,h7,λe=>?_,?_⟩
  ·have:=hS.prod;rw[e,j5]at this;have h8:sz (fx (jf p f):Fx p)=1:=by rw[←this,oY H]
   rw[dj h1.c]at h8;omega
  ·obtain⟨_,h9⟩:=Ty H (l:=nO H (jf p f)) λg hg=>⟨(hS.parts g hg).1,(hS.parts g hg).2.1⟩
   rw[hS.prod,dj h1.c]at h9;omega
 ·omega
def Nf{p:Nat}(H:bI p){f:List Int}(h:a7 (fC p f)=[]):bG (fx f:Fx p)=0:=by rw[←TD,←xn,h,og]
def TL{p:Nat}(H:bI p){F0:Fx p}:∀(k:Nat)(f:List Int)(m:Nat)(l:List (List Int×Int)),f.length≤k→f.length≤200→oo p F0 f m l→∃f' m',f'.length≤1∧oo p F0 f' m' (rh H k f m l)
 |0,f,m,l,hk,_,h=>⟨f,m,by omega,h⟩
 |k+1,f,m,l,hk,sf,h=>by
  rw[rh];by_cases h1:f.length≤1
  ·rw[aw h1];exact⟨f,m,h1,h⟩
  ·rw[aq h1];by_cases hd:a7 (fC p f)=[]
   ·rw[aw hd];have e:=TG H h.bT af (Nf H hd);exact TL H k _ _ l af af (h.root H af (Nf H hd))
   ·rw[aq hd];obtain⟨_,_,_,_,_,s6,s7,_⟩:=abz H h.bT af sf hd;obtain⟨p1,p2,p3⟩:=TH H _ f l h s6;have:=p3 s7;exact TL H k _ m _ af af p1
structure yW(p:Nat)(F:Fx p)(l:List (List Int×Int)):Prop where
 parts:∀x∈l,Mon p x.1∧2≤x.1.length∧cj (fx x.1:Fx p)∧1≤x.2
 ds:l.Pairwise λx y=>x.1≠y.1
 prod:kM p l=F
def amt{p:Nat}(H:bI p){f:List Int}(hf:Mon p f)(sf:f.length≤200):yW p (fx f) (rh H f.length f 1 []):=by
 obtain⟨f',m',h1,h⟩:=TL H f.length f 1 [] (bD _) sf (oo.start hf);refine⟨h.ig,h.ds,?_⟩;have hl:=h.bT.pos;have e1:(fx f':Fx p)=1:=by
  rw[←Mv];congr 1;have h3:=h.bT.one;match f',h1,hl,h3 with
  |[c],_,_,h3=>rw[show c=1 from h3]
 rw[h.prod,e1,yL,one_mul]
def abA{p n k:Nat}(hp:0<p):k*p<n↔k<iq p n:=by
 unfold iq;have h1:=xU (n+p-1) p;have h2:=iy (n+p-1) hp;rw[ix]at h1;constructor
 ·intro h;refine gE λhn=>?_
  have:=eJ p (show(n+p-1)/p≤k by omega);omega
 ·intro h;have:=eJ p (show k+1≤(n+p-1)/p by omega);rw[fV,jb]at this;omega
def amu(p:Nat)(f:List Int)(k:Nat):jQ p f k++[f.getD (k*p) 0]=jQ p f (k+1):=by unfold jQ;rw[qk,eh];rfl
def abB(p:Nat)(f:List Int)(k:Nat):(jQ p f k).length=k:=by simp[jQ]
set_option maxRecDepth 100000 in
set_option maxHeartbeats 8000000 in
def amv{p:Nat}(H:bI p)(f0:List Int)(iU:Mon p f0)(sf:f0.length≤200):m9 Tryz.prog 63 [aP f0 p] 33 MT (rh H f0.length f0 1 []):=by
 have iN:=H.hp.1;have Eh:=H.le;have vE:(p:Int)≠0:=af;have cR:sz (fx f0:Fx p)=f0.length:=dj iU.c;refine Af Tryz.func63 ae ae ae ae ak ?_;refine rr ae (rr ae (rr ae ?_));refine aj (aH (bA (α:=Nat×List Int×Nat×List (List Int×Int)) (λx=>⟨[(1,.c (.P 0 0)),(3,.c (.X 3000000)),(4,cI x.2.2.1)],[(3000000,.vec 33 MT x.2.2.2),(0,.box 101 0 [.S aM x.2.1,.I .u64 p])],4,[]⟩) (λx=>rh H x.1 x.2.1 x.2.2.1 x.2.2.2=rh H f0.length f0 1 []∧x.2.1.length≤x.1∧x.2.1.length≤200∧oo p (fx f0) x.2.1 x.2.2.1 x.2.2.2) (λx=>x.2.1.length) (f0.length,f0,1,[]) ⟨ae,bD _,sf,oo.start iU⟩ ?_ ?_))
 ·exact tv 3000000 33 MT ⟨.inl (sR ae),.inr ⟨ae,ae⟩,.inl (sR ae),ah⟩ ⟨bE ae ae,ah⟩ ae (eQ.of ae)
 rintro⟨k,f,m,l⟩ ⟨hL,hk,oQ,hI⟩;simp only at hL hk oQ hI;obtain⟨bl,bx,bm⟩:=hI.bounds H;have H6:=hI.m1;have hfp:=hI.bT.pos;refine aj (rb (rc ae ae (uv f p af) (re ae (ax ae (λh=>?_) (λh=>?_)))))
 ·have h:2≤f.length:=by have h:(f.length:Int)-1>0:=a9 h;omega
  obtain⟨k,rfl⟩:∃q,k=q+1:=⟨k-1,by omega⟩;have amw:=abu H f oQ hI.bT.c.1;rw[rh,aq af]at hL;have bm:=bm h;refine aC (ai (aH (rb (rc ae ae amw (re ae ?_)))));refine aj (rr ae (ax ae (λh1=>?_) (λh1=>aC (ai ?_))))
  ·have h1:a7 (fC p f)=[]:=by have h1:(((a7 (fC p f)).length:Nat):Int)=0:=eq_of_beq h1;exact iu af
   rw[aw h1]at hL;have hR:=hI.root H h (Nf H h1);obtain⟨e1,e2,e3,e4⟩:=TG H hI.bT h (Nf H h1);have bRz:=(hR.bounds H).2.2 e3;refine rr ae (aj (rr ae (aH (bA (α:=Nat) (λq=>⟨[(1,.c (.P 0 0)),(3,.c (.X 3000000)),(4,cI m),(6,.c (.X 9000000)),(7,cI ((q*p:Nat):Int))],[(9000000,.vec 25 aM (jQ p f q)),(3000000,.vec 33 MT l),(0,.box 101 0 [.S aM f,.I .u64 p])],10,[]⟩) (λq=>q≤iq p f.length) (λq=>iq p f.length-q) 0 (bK _) ?_ ?_))))
   ·exact tv 9000000 25 aM ⟨.inl (sR ae),.inl (sR ae),.inl (sR ae),.inr ⟨ae,ae⟩,.inl ⟨_,ae,au.of_eq (ay (λz:Nat=>cI (z:Int)) (Bp p).symm)⟩,ah⟩ ⟨bR ae,bR ae,ah⟩ ae (eQ.of ae)
   intro q hq;have Ng:=abB p f q;have hek:=abB p f (iq p f.length);generalize hz:q*p=z at*;refine aj (rr ae (ax ae (λh5=>?_) (λh5=>?_)))
   ·have h5:z<f.length:=by have h5:(z:Int)<(f.length:Int):=a9 h5;omega
    have yX:=(abA (show 0<p by omega)).1 (show q*p<f.length by omega);refine aC (ai (aj (aH (cK ?_))));refine rl aM [_] ae ae (hp:=aN) (ra ae ae ae ae ae ae ae ae ae ?_ ?_ (re ae ?_))
    ·show(_+1+(_+1)/4+192)*8≤_;omega
    ·show(_+1)*1≤_;omega
    refine a6 (ai (rt ae (a8 (q+1) yX (by show iq p f.length-(q+1)<iq p f.length-q;omega) (Wk.trans (wk (st':=⟨[(1,.c (.P 0 0)),(3,.c (.X 3000000)),(4,cI m),(6,.c (.X 11007000)),(7,cI (((q+1)*p:Nat):Int))],[(11007000,.vec 25 aM (jQ p f (q+1))),(3000000,.vec 33 MT l),(0,.box 101 0 [.S aM f,.I .u64 p])],13,[]⟩) ⟨sR ae,sR ae,sR ae,sR ae,sE ae ?_,ah⟩ ⟨bE ae ?_,bE ae ae,bE ae ae,ah⟩) (Wk.trans (qI 9000000 11007000 ae ae ae) bY))) (hp:=?_)))
    ·refine ay cI ?_;rw[fV,hz,jb,xV]
    ·refine ay (aK.vec 25 aM) ?_;rw[←amu,bu,hz]
    ·simp only[Pr.an,Pr.h,num,aA,true_and,and_true];omega
   ·have yX:q=iq p f.length:=by
     have h5:¬(z:Int)<(f.length:Int):=bC h5;have:=λbr=>(abA (n:=f.length) (k:=q) (show 0<p by omega)).2 br
     rcases wI q (iq p f.length)with e|e
     ·have:=this e;omega
     ·omega
    subst yX;have hmp:(m:Int)*(p:Int)=((m*p:Nat):Int):=(gi m p).symm;refine bh (bt (bq (bp (ai (fY 9000000 ae ae ae (rr ae (rr ae (hp:=?_) (bh (bt (bp (a8 (k,jQ p f (iq p f.length),m*p,l) ⟨hL,by show(jQ p f (iq p f.length)).length≤k;omega,by show(jQ p f (iq p f.length)).length≤200;omega,hR⟩ (by show(jQ p f (iq p f.length)).length<f.length;omega) (wk ⟨sR ae,sR ae,sE ae ?_,ah⟩ ⟨bR ae,bR ae,ah⟩))))))))))))
    ·exact ay cI hmp
    ·simp only[Pr.an,Pr.h,num,aA,true_and,and_true];rw[hmp];omega
  ·have h1:a7 (fC p f)≠[]:=by intro e;have h1:(((a7 (fC p f)).length:Nat):Int)≠0:=kU h1;rw[e]at h1;exact h1 ae
   rw[aq h1]at hL;obtain⟨w1,w2,w3,w4,w5,w6,w7,w8⟩:=abz H hI.bT h oQ h1;obtain⟨z1,z2,z3⟩:=TH H (nO H (jf p f)) f l hI w6;have z3:=z3 w7;have qY:bX p (a7 (fC p f)):=nJ H.pos (Nc af f);have Nd:(a7 (fC p f)).length≤f.length:=by have:=vJ (fC p f);rw[IZ]at this;omega
   obtain⟨m1,m2,m3,_⟩:=Ff H hI.bT.c qY hI.bT.ne;have jP:(gx p f (a7 (fC p f))).length≤f.length:=by have:=j3 H m2 (hI.bT.nj H);rwa[dj m1.c,dj hI.bT.c]at this
   have Te:=Mm p H.hp H.le f (a7 (fC p f)) af af hI.bT.c qY hI.bT.ne;have hdiv:=yH p H.hp H.le f (gx p f (a7 (fC p f))) af af hI.bT.c.1 m1.c hI.bT.ne m1.ne;have amx:=abr H (jf p f) w1 w2 af w4;have hSl:(lP p (nO H (jf p f))).length=(nO H (jf p f)).length:=Nb p _;generalize nO H (jf p f)=Ls at*;refine rb (rc ae ae Te (rc ae ae hdiv (re ae ?_)));refine rb (rc ae ae amx (re ae ?_));refine aH (bA (α:=Nat×List Int×List (List Int×Int)) (λx=>⟨[(1,.c (.P 0 0)),(3,.c (.X 3000000)),(4,cI m),(60,cS PT (lP p Ls)),(61,cI Ls.length),(62,cI x.1)],[(3000000,.vec 33 MT x.2.2),(0,.box 101 0 [.S aM x.2.1,.I .u64 p])],9,[]⟩) (λx=>x.1≤Ls.length∧oN p m (Ls.drop x.1) x.2=oN p m Ls (f,l)∧oo p (fx f0) x.2.1 m x.2.2∧FC p x.2.1 (Ls.drop x.1)∧x.2.1.length≤200) (λx=>Ls.length-x.1) (0,f,l) ⟨bK _,ae,hI,w6,oQ⟩ ?_ ?_)
   ·refine(wk ⟨sR ae,sR ae,sR ae,sR ae,sE ae ?_,sR ae,ah⟩ ⟨bR ae,bR ae,ah⟩);exact ay (λz:Nat=>cI (z:Int)) hSl
   rintro⟨j,f1,l1⟩ ⟨hj,hP,tB,Nh,Ew⟩;simp only at hj hP tB Nh Ew;obtain⟨cl,cx,_⟩:=tB.bounds H;have atE:=tB.bT.pos;refine rr ae (aj (ax ae (λh5=>?_) (λh5=>?_)))
   ·have nk:j<Ls.length:=by have h5:(j:Int)<(Ls.length:Int):=a9 h5;omega
    have yd:Ls.drop j=Ls[j]::Ls.drop (j+1):=oH nk;have hgj:(lP p Ls).getD ((j:Int)).toNat ([],0)=(Ls[j],(p:Int)):=by rw[bu,abo nk]
    rw[yd]at hP Nh;generalize Ls[j]=g at*;obtain⟨g1,g2,g3,g4⟩:=Nh.ok g be;have atF:g.length≤f1.length:=by have:=j3 H g4 (tB.bT.nj H);rwa[dj g1.c,dj tB.bT.c]at this
    obtain⟨r1,r2,r3⟩:=tB.pull H Nh;have cx2:=(r1.bounds H).2.1 (g,(((pull p g (f1.length+1) f1 0).2:Nat):Int)*(m:Int)) be;obtain⟨_,_,_,_,r5,_⟩:=TE H g1 g2 (f1.length+1) f1 0 (fT _) tB.bT;rw[oN]at hP;have amy:aG Tryz.prog 127 [aP f1 p,.a (av PT ((lP p Ls).getD ((j:Int)).toNat ([],0)))] (.t [(true,[.S aM (bM f1 g p).1,.I .u64 p]),(true,[.S aM (bM f1 g p).2,.I .u64 p])]):=by rw[hgj];exact yH p H.hp H.le f1 g af af tB.bT.c.1 g1.c tB.bT.ne g1.ne
    refine aC (ai (aj (aH (rr ae (hp:=aN) (rr ae ?_)))));refine aj (rb (rc ae ae amy (re ae ?_)));refine aH (bA (α:=Nat×List Int×Nat) (λx=>⟨[(1,.c (.P 0 0)),(3,.c (.X 3000000)),(4,cI m),(60,cS PT (lP p Ls)),(61,cI Ls.length),(62,cI j),(11,.c (.P 10002000 0)),(12,cI x.2.2),(13,.c (.P 12006000 0)),(14,.c (.P 12007000 0))],[(3000000,.vec 33 MT l1),(0,.box 101 0 [.S aM x.2.1,.I .u64 p]),(10002000,.box 101 0 [.S aM g,.I .u64 p]),(12006000,.box 101 0 [.S aM (bM x.2.1 g p).1,.I .u64 p]),(12007000,.box 101 0 [.S aM (bM x.2.1 g p).2,.I .u64 p])],13,[]⟩) (λx=>pull p g x.1 x.2.1 x.2.2=pull p g (f1.length+1) f1 0∧x.2.1.length<x.1∧Mon p x.2.1∧x.2.2+x.2.1.length≤f1.length) (λx=>x.2.1.length) (f1.length+1,f1,0) ⟨ae,fT _,tB.bT,by show 0+f1.length≤_;omega⟩ ?_ ?_)
    ·refine(wk ⟨sR ae,sR ae,sR ae,sR ae,sR ae,sR ae,sR ae,sR ae,sR ae,sR ae,ah⟩ ⟨bR ae,bR ae,bE ae ?_,bR ae,bR ae,ah⟩);exact ay (λz:List Int×Int=>aK.box 101 0 [.S aM z.1,.I .u64 z.2]) hgj
    rintro⟨kf,f2,n⟩ ⟨jo,amz,vt,hp4⟩;simp only at jo amz vt hp4;have atG:=vt.pos;obtain⟨kf,rfl⟩:∃q,kf=q+1:=⟨kf-1,by omega⟩;refine aj (rr ae (ax ae (λh6=>?_) (λh6=>?_)))
    ·have h6:(bM f2 g p).2=[]:=by have h6:(((bM f2 g p).2.length:Nat):Int)=0:=eq_of_beq h6;exact iu af
     have uk:=(Mz H vt.c g1.c g1.ne).1 h6;have amB:g.length≤f2.length:=by have:=j3 H uk (vt.nj H);rwa[dj g1.c,dj vt.c]at this
     have hq:=My H vt g1 amB;obtain⟨_,_,_,_,_,rW⟩:=lD H.hp H.le vt.c.1 g1.c g1.ne;have TM:=hq.pos;rw[pull,aw h6]at jo;have amC:=yH p H.hp H.le (bM f2 g p).1 g af af hq.c.1 g1.c hq.ne g1.ne;refine aC (ai (aj (aH (rr ae (rt ae (hp:=aN) (a6 (ai (aj (rr ae (rt ae (ai (cK (rc ae ae amC (re ae ?_))))))))))))));refine a8 (kf,(bM f2 g p).1,n+1) ⟨jo,by show(bM f2 g p).1.length<kf;omega,hq,by show n+1+(bM f2 g p).1.length≤f1.length;omega⟩ (by show(bM f2 g p).1.length<f2.length;omega) ?_;refine Wk.trans (xt (mw 12006000 17000000) (st':=⟨[(1,.c (.P 0 0)),(3,.c (.X 3000000)),(4,cI m),(60,cS PT (lP p Ls)),(61,cI Ls.length),(62,cI j),(11,.c (.P 10002000 0)),(12,cI ((n+1:Nat):Int)),(13,.c (.P 12006000 0)),(14,.c (.P 17002000 0))],[(3000000,.vec 33 MT l1),(0,.box 101 0 [.S aM (bM f2 g p).1,.I .u64 p]),(10002000,.box 101 0 [.S aM g,.I .u64 p]),(12006000,.box 101 0 [.S aM (bM (bM f2 g p).1 g p).1,.I .u64 p]),(17002000,.box 101 0 [.S aM (bM (bM f2 g p).1 g p).2,.I .u64 p])],19,[]⟩) ⟨sR ae,sR ae,sR ae,sR ae,sR ae,sR ae,sR ae,sR ae,sR ae,sR ae,ah⟩ ⟨bE ae ae,bE ae ae,bE ae ae,bE ae ae,bE ae ae,ah⟩ ae (Fv ae) (eQ.of ae)) ?_;exact xt (mw 12007000 17002000) ⟨sR ae,sR ae,sR ae,sR ae,sR ae,sR ae,sR ae,sR ae,sR ae,sR ae,ah⟩ ⟨bE ae ae,bE ae ae,bE ae ae,bE ae ae,bE ae ae,ah⟩ ae (Fv ae) (eQ.of ae)
    ·have h6:(bM f2 g p).2≠[]:=by intro e;have h6:(((bM f2 g p).2.length:Nat):Int)≠0:=kU h6;rw[e]at h6;exact h6 ae
     rw[pull,aq h6]at jo;rw[←jo]at cx2 r1 r2 r3 hP r5;simp only at cx2 r1 r2 r3 hP r5;refine bh (bt (bq (bp (ai ?_))));refine cK (rl MT [(g,(n:Int)*(m:Int))] ae ae (ra ae ae ae ae ae ae ae ae ae ?_ ?_ (re ae ?_)) (hp:=?_))
     ·show(_+1+(_+1)/4+192)*32≤_;omega
     ·show(_+1)*2≤_;omega
     ·exact a6 (ai (rt ae (hp:=aN) (a8 (j+1,f2,l1++[(g,(n:Int)*(m:Int))]) ⟨nk,hP,r1,r2,by show f2.length≤200;omega⟩ (by show Ls.length-(j+1)<Ls.length-j;omega) (Wk.trans (wk (st':=⟨[(1,.c (.P 0 0)),(3,.c (.X 14008000)),(4,cI m),(60,cS PT (lP p Ls)),(61,cI Ls.length),(62,cI ((j+1:Nat):Int))],[(14008000,.vec 33 MT (l1++[(g,(n:Int)*(m:Int))])),(0,.box 101 0 [.S aM f2,.I .u64 p])],16,[]⟩) ⟨sR ae,sR ae,sR ae,sR ae,sR ae,sR ae,ah⟩ ⟨bE ae ae,bE ae ae,ah⟩) (Wk.trans (qI 3000000 14008000 ae ae ae) bY)))))
     ·have hnm:=jX (show(0:Int)≤(n:Int)by omega) (show(0:Int)≤(m:Int)by omega);simp only[Pr.an,Pr.h,num,aA,true_and,and_true];omega
   ·have nk:j=Ls.length:=by have h5:¬(j:Int)<(Ls.length:Int):=bC h5;omega
    subst nk;rw[GI,oN]at hP;rw[←hP]at z1 z3 hL;simp only at z1 z3 hL;exact bh (bt (bq (bp (a6 (a8 (k,f1,m,l1) ⟨hL,by show f1.length≤k;omega,Ew,tB⟩ (by show f1.length<f.length;omega) bY)))))
 ·have h:f.length≤1:=by have h:¬(f.length:Int)-1>0:=bC h;omega
  have hl:rh H k f m l=l:=by
   cases k with
   |zero=>rfl
   |succ k=>rw[rh,aw h]
  rw[hl]at hL;rw[←hL];exact bh (bt (bq (bp (ai (rr ae (aF (yu (id:=3000000) ar ae ae)))))))
end Go.El
namespace Go.El
open Go Go.Proofs
def kX(a b:Int):Int:=if a<b then-1 else if a>b then 1 else 0
def uC(a b:List Int):Nat→Int
 |0=>0
 |i+1=>if kX (a.getD i 0) (b.getD i 0)≠0 then kX (a.getD i 0) (b.getD i 0)else uC a b i
def lF(a b:List Int):Int:=if a.length≠b.length then kX a.length b.length else uC a b a.length
def abH(a:Int):aG Tryz.prog 132 [cU a] (cB false):=by refine aX Tryz.func132 ae ae ae ae ae ak ?_;refine rr ae (rr ae (aF (aL ar ae (au.of_eq ?_))));simp
def abI(a:Int):aG Tryz.prog 195 [cI a] (cB false):=by refine aX Tryz.func195 ae ae ae ae ae ak ?_;refine rr ae (rr ae (aF (aL ar ae (au.of_eq ?_))));simp
def amD(a b:Int):aG Tryz.prog 67 [cU a,cU b] (cI (kX a b)):=by
 refine aX Tryz.func67 ae ae ae ae ae ak ?_;refine rr ae (rb (rc ae ae (abH a) (re ae (rb (rc ae ae (abH b) (re ae (aj (rr ae (ax ae (λh=>by cases h) (λ_=>aC (ai ?_)))))))))));refine aj (rr ae (ax ae (λh=>by cases h) (λ_=>aC (ai ?_))));refine aj (rr ae (ax ae (λh=>?_) (λh=>aC (ai ?_))))
 ·have h:a<b:=a9 h;refine rr ae (aF (bS (aL ar ae (au.of_eq ?_))));rw[kX,aw h];rfl
 ·have h:¬a<b:=bC h;refine aj (rr ae (ax ae (λh2=>?_) (λh2=>aC (ai ?_))))
  ·have h2:a>b:=a9 h2;refine rr ae (aF (bS (aL ar ae (au.of_eq ?_))));rw[kX,aq h,aw h2];rfl
  ·have h2:¬a>b:=bC h2;refine rr ae (aF (aL ar ae (au.of_eq ?_)));rw[kX,aq h,aq h2];rfl
def abJ(a b:Int):aG Tryz.prog 131 [cI a,cI b] (cI (kX a b)):=by
 refine aX Tryz.func131 ae ae ae ae ae ak ?_;refine rr ae (rb (rc ae ae (abI a) (re ae (rb (rc ae ae (abI b) (re ae (aj (rr ae (ax ae (λh=>by cases h) (λ_=>aC (ai ?_)))))))))));refine aj (rr ae (ax ae (λh=>by cases h) (λ_=>aC (ai ?_))));refine aj (rr ae (ax ae (λh=>?_) (λh=>aC (ai ?_))))
 ·have h:a<b:=a9 h;refine rr ae (aF (bS (aL ar ae (au.of_eq ?_))));rw[kX,aw h];rfl
 ·have h:¬a<b:=bC h;refine aj (rr ae (ax ae (λh2=>?_) (λh2=>aC (ai ?_))))
  ·have h2:a>b:=a9 h2;refine rr ae (aF (bS (aL ar ae (au.of_eq ?_))));rw[kX,aq h,aw h2];rfl
  ·have h2:¬a>b:=bC h2;refine rr ae (aF (aL ar ae (au.of_eq ?_)));rw[kX,aq h,aq h2];rfl
abbrev mc(f:Nat):AV:= .c (.V (.func (.func f) ⟨[]⟩ ⟨[]⟩))
def amE(a b:List Int)(la:a.length≤1000)(lb:b.length≤1000):aG Tryz.prog 66 [cS aM a,cS aM b,mc 67] (cI (lF a b)):=by
 refine aX Tryz.func66 ae ae ae ae ae ak ?_;refine rr ae (aj (rr ae (ax ae (λh=>?_) (λh=>aC (ai ?_)))))
 ·have h:a.length≠b.length:=λe=>by simp[e]at h
  refine rb (rc ae ae (abJ a.length b.length) (re ae (aF (bS (aL ar ae (au.of_eq ?_))))));rw[lF,aw h]
 ·have h:a.length=b.length:=by have:(a.length:Int)=(b.length:Int):=cq;omega
  have hL:lF a b=uC a b a.length:=by rw[lF,aq (λe=>e h)]
  rw[hL];refine aj (rr ae (aH (bA (α:=Nat) (λi=>⟨[(0,cS aM a),(1,cS aM b),(2,mc 67),(7,cI ((i:Int)-1))],[],3,[]⟩) (λi=>i≤a.length∧uC a b i=uC a b a.length) (λi=>i) a.length ⟨bD _,ae⟩ bY ?_)));rintro i ⟨hi,hr⟩;refine aj (rr ae (ax ae (λh1=>?_) (λh1=>?_)))
  ·have h1:0<i:=by have h1:(i:Int)-1≥0:=a9 h1;omega
   obtain⟨i,rfl⟩:∃k,i=k+1:=⟨i-1,by omega⟩;have ei:(((i+1:Nat):Int)-1).toNat=i:=af;have hc:aG Tryz.prog 67 ([]++([cU (a.getD (((i+1:Nat):Int)-1).toNat 0),cU (b.getD (((i+1:Nat):Int)-1).toNat 0)]++[])) (cI (kX (a.getD i 0) (b.getD i 0))):=by rw[ei];exact amD _ _
   rw[uC]at hr;refine aC (ai (aj (aH (rb (CG ae ae (.inl ⟨ae,ae,ae⟩) ae hc (re ae (rr ae (ax ae (λh2=>?_) (λh2=>?_)))) (hp:=aN))))))
   ·have h2:kX (a.getD i 0) (b.getD i 0)≠0:=λe=>by rw[e]at h2;simp at h2
    rw[aw h2]at hr;rw[←hr];exact rr ae (aF (fq (bS (gU (fq (bS (aL ar ae (au.refl _))))))))
   ·have h2:kX (a.getD i 0) (b.getD i 0)=0:=by generalize kX (a.getD i 0) (b.getD i 0)=z at*;simpa using h2
    rw[aq (λe=>e h2)]at hr;refine aC (a6 (ai (rt ae (hp:=aN) (a8 i ⟨by omega,hr⟩ (by show i<i+1;omega) (wk ⟨sR ae,sR ae,sR ae,sE ae ?_,ah⟩ ah)))));exact ay cI af
  ·have h1:i=0:=by have h1:¬(i:Int)-1≥0:=bC h1;omega
   subst h1;rw[←hr];exact bh (bt (bq (bp (ai (rr ae (aF (aL ar ae (au.refl _))))))))
def amF(x y:List Int×Int)(lx:x.1.length≤1000)(ly:y.1.length≤1000):aG Tryz.prog 65 ([]++([.a (av MT x),.a (av MT y)]++[])) (cI (lF x.1 y.1)):=by refine aX Tryz.func65 ae ae ae ae ae ak ?_;exact rr ae (rb (rc ae ae (amE x.1 y.1 lx ly) (re ae (aF (aL ar ae (au.refl _))))))
end Go.El
namespace Go.El
section
variable{α:Type}{d:α}{cm:α→α→Int}
def vP(d:α)(xs:List (α))(j:Nat):List (α):=(xs.set (j+1) (xs.getD j d)).set j (xs.getD (j+1) d)
def si(d:α)(cm:α→α→Int):Nat→List (α)→List (α)
 |0,xs=>xs
 |j+1,xs=>if cm (xs.getD (j+1) d) (xs.getD j d)<0 then si d cm j (vP d xs j)else xs
def jg(d:α)(cm:α→α→Int)(xs:List (α)):Nat→List (α)
 |0=>xs
 |i+1=>si d cm (i+1) (jg d cm xs i)
def I0(xs:List (α))(j:Nat):(vP d xs j).length=xs.length:=by simp[vP]
def abK:∀(j:Nat)(xs:List (α)),(si d cm j xs).length=xs.length
 |0,_=>rfl
 |j+1,xs=>by
  rw[si];split
  ·rw[abK j,I0]
  ·rfl
def AQ(xs:List (α)):∀i,(jg d cm xs i).length=xs.length
 |0=>rfl
 |i+1=>by rw[jg,abK,AQ xs i]
def FD{xs:List (α)}{i:Nat}(h:i<xs.length):xs.getD i d=xs[i]:=by rw[aU,cr h];rfl
def TN{xs:List (α)}{j:Nat}(h:j+1<xs.length):(vP d xs j).Perm xs:=by
 have e1:xs=xs.take j++(xs[j]::xs[j+1]::xs.drop (j+2)):=by rw[←oH h,←oH (show j<xs.length by omega),xP]
 have e2:vP d xs j=xs.take j++(xs[j+1]::xs[j]::xs.drop (j+2)):=by
  unfold vP;rw[FD h,FD (show j<xs.length by omega)];generalize xs[j]=a at*;generalize xs[j+1]=b at*;generalize hA:xs.take j=A at*;generalize xs.drop (j+2)=B at*;have hl:A.length=j:=by rw[←hA,fI];omega
  rw[e1,qi _ _ af,qi _ _ af,hl,iw,show j+1-j=1 by omega];rfl
 rw[e2];conv=>rhs;rw[e1]
 exact(List.Perm.swap _ _ _).append_left _
def abL:∀(j:Nat)(xs:List (α)),j<xs.length→(si d cm j xs).Perm xs
 |0,_,_=>zB _
 |j+1,xs,h=>by
  rw[si];split
  ·exact(abL j _ (by rw[I0];omega)).trans (TN h)
  ·exact zB _
def I1(xs:List (α)):∀i,i<xs.length→(jg d cm xs i).Perm xs
 |0,_=>zB _
 |i+1,h=>(abL (i+1) _ (by rw[AQ];exact h)).trans (I1 xs i af)
def abM{xs:List (α)}{i:Nat}(h:i=0∨i<xs.length){x:α}(hx:x∈jg d cm xs i):x∈xs:=by
 rcases h with rfl|h
 ·exact hx
 ·exact(I1 xs i h).mem_iff.1 hx
def amG{xs:List (α)}{j:Nat}(h:j+1<xs.length)(t:Nat):(vP d xs j).getD t d=if t=j then xs.getD (j+1) d else if t=j+1 then xs.getD j d else xs.getD t d:=by
 have hs:∀(l:List (α))(i c:Nat)(x:α),i<l.length→(l.set i x).getD c d=if i=c then x else l.getD c d:=by
  intro l i c x h;rw[aU,GC];by_cases e:i=c
  ·subst e;rw[aw ae,aw ae,aw h];rfl
  ·rw[aq e,aq e,aU]
 unfold vP;rw[hs _ _ _ _ (by rw[gO];omega),hs _ _ _ _ h];by_cases e:j=t
 ·subst e;rw[aw ae,aw ae]
 ·have e':¬t=j:=λq=>e q.symm
  rw[aq e,aq e'];by_cases e2:j+1=t
  ·subst e2;rw[aw ae];first|done|rw[aw rfl]
  ·have e3:¬t=j+1:=λq=>e2 q.symm
   rw[aq e2,aq e3]
def TO(d:α)(cm:α→α→Int)(xs:List (α))(k:Nat):Prop:=∀t,t<k→0≤cm (xs.getD (t+1) d) (xs.getD t d)
def abN(xA:∀a b,cm a b= -cm b a){n:Nat}:∀(j:Nat)(xs:List (α)),n<xs.length→j≤n→(∀t,t+1<j→0≤cm (xs.getD (t+1) d) (xs.getD t d))→(∀t,j≤t→t<n→0≤cm (xs.getD (t+1) d) (xs.getD t d))→(j<n→0<j→0≤cm (xs.getD (j+1) d) (xs.getD (j-1) d))→TO d cm (si d cm j xs) n
 |0,xs,_,_,_,h2,_=>λt ht=>h2 t (bK _) ht
 |j+1,xs,hn,hj,h1,h2,h3=>by
  rw[si];split
  ·rename_i br;have hg:=λt=>amG (d:=d) (xs:=xs) (j:=j) af t
   refine abN xA j (vP d xs j) (by rw[I0];exact hn) af (λt ht=>?_) (λt EK vQ=>?_) (λ_ CC=>?_)
   ·rw[hg,hg,aq af,aq af,aq af,aq af];exact h1 t af
   ·rw[hg,hg];by_cases e:t=j
    ·subst e;rw[aq af,aw ae,aw ae,xA];omega
    ·rw[aq af,aq af];by_cases e2:t=j+1
     ·subst e2;rw[aq af,aw ae];exact h3 af af
     ·rw[aq af,aq e2];exact h2 t af vQ
   ·rw[hg,hg,aq af,aw ae,aq af,aq af];have:=h1 (j-1) af;rwa[show j-1+1=j by omega]at this
  ·rename_i tR;intro t ht;by_cases e:t<j
   ·exact h1 t af
   ·by_cases e2:t=j
    ·subst e2;omega
    ·exact h2 t af ht
def TQ(xA:∀a b,cm a b= -cm b a)(xs:List (α)):∀i,i<xs.length→TO d cm (jg d cm xs i) i
 |0,_=>λt ht=>by omega
 |i+1,h=>by have ih:=TQ xA xs i af;rw[jg];exact abN xA (i+1) _ (by rw[AQ];exact h) (bD _) (λt ht=>ih t af) (λt h1 h2=>by omega) (λh1=>by omega)
end
end Go.El
namespace Go.El
open Go Go.Proofs Fx
abbrev gh:List Int×Int:=([],0)
def xB(xs:List (List Int×Int))(j:Nat):List (List Int×Int):=(xs.set (j+1) (xs.getD j gh)).set j (xs.getD (j+1) gh)
def vR:Nat→List (List Int×Int)→List (List Int×Int)
 |0,xs=>xs
 |j+1,xs=>if lF (xs.getD (j+1) gh).1 (xs.getD j gh).1<0 then vR j (xB xs j)else xs
def mh(xs:List (List Int×Int)):Nat→List (List Int×Int)
 |0=>xs
 |i+1=>vR (i+1) (mh xs i)
def Ni(xs:List (List Int×Int))(j:Nat):(xB xs j).length=xs.length:=by simp[xB]
def abO:∀(j:Nat)(xs:List (List Int×Int)),(vR j xs).length=xs.length
 |0,_=>rfl
 |j+1,xs=>by
  rw[vR];split
  ·rw[abO j,Ni]
  ·rfl
def FE(xs:List (List Int×Int)):∀i,(mh xs i).length=xs.length
 |0=>rfl
 |i+1=>by rw[mh,abO,FE xs i]
def getM{xs:List (List Int×Int)}{i:Nat}(h:i<xs.length):xs.getD i gh=xs[i]:=by rw[aU,cr h];rfl
def abP{xs:List (List Int×Int)}{j:Nat}(h:j+1<xs.length):(xB xs j).Perm xs:=by
 have e1:xs=xs.take j++(xs[j]::xs[j+1]::xs.drop (j+2)):=by rw[←oH h,←oH (show j<xs.length by omega),xP]
 have e2:xB xs j=xs.take j++(xs[j+1]::xs[j]::xs.drop (j+2)):=by
  unfold xB;rw[getM h,getM (show j<xs.length by omega)];generalize xs[j]=a at*;generalize xs[j+1]=b at*;generalize hA:xs.take j=A at*;generalize xs.drop (j+2)=B at*;have hl:A.length=j:=by rw[←hA,fI];omega
  rw[e1,qi _ _ af,qi _ _ af,hl,iw,show j+1-j=1 by omega];rfl
 rw[e2];conv=>rhs;rw[e1]
 exact(List.Perm.swap _ _ _).append_left _
def abQ:∀(j:Nat)(xs:List (List Int×Int)),j<xs.length→(vR j xs).Perm xs
 |0,_,_=>zB _
 |j+1,xs,h=>by
  rw[vR];split
  ·exact(abQ j _ (by rw[Ni];omega)).trans (abP h)
  ·exact zB _
def TS(xs:List (List Int×Int)):∀i,i<xs.length→(mh xs i).Perm xs
 |0,_=>zB _
 |i+1,h=>(abQ (i+1) _ (by rw[FE];exact h)).trans (TS xs i af)
def amH{xs:List (List Int×Int)}{i:Nat}(h:i=0∨i<xs.length){x:List Int×Int}(hx:x∈mh xs i):x∈xs:=by
 rcases h with rfl|h
 ·exact hx
 ·exact(TS xs i h).mem_iff.1 hx
def amI{xs:List (List Int×Int)}{j:Nat}(h:j+1<xs.length)(t:Nat):(xB xs j).getD t gh=if t=j then xs.getD (j+1) gh else if t=j+1 then xs.getD j gh else xs.getD t gh:=by
 have hs:∀(l:List (List Int×Int))(i c:Nat)(x:List Int×Int),i<l.length→(l.set i x).getD c gh=if i=c then x else l.getD c gh:=by
  intro l i c x h;rw[aU,GC];by_cases e:i=c
  ·subst e;rw[aw ae,aw ae,aw h];rfl
  ·rw[aq e,aq e,aU]
 unfold xB;rw[hs _ _ _ _ (by rw[gO];omega),hs _ _ _ _ h];by_cases e:j=t
 ·subst e;rw[aw ae,aw ae]
 ·have e':¬t=j:=λq=>e q.symm
  rw[aq e,aq e'];by_cases e2:j+1=t
  ·subst e2;rw[aw ae];first|done|rw[aw rfl]
  ·have e3:¬t=j+1:=λq=>e2 q.symm
   rw[aq e2,aq e3]
def abR(xs:List (List Int×Int))(k:Nat):Prop:=∀t,t<k→0≤lF (xs.getD (t+1) gh).1 (xs.getD t gh).1
def TU(a b:Int):kX a b= -kX b a:=by unfold kX;split<;>split<;>(try split)<;>omega
def abS(a b:List Int):∀i,uC a b i= -uC b a i
 |0=>rfl
 |i+1=>by
  rw[uC,uC,TU (b.getD i 0) (a.getD i 0),abS a b i];generalize kX (a.getD i 0) (b.getD i 0)=z;by_cases h:z=0
  ·rw[aq (λe=>e h),aq (λe=>e af)]
  ·rw[aw h,aw af];omega
def abT(a b:List Int):lF a b= -lF b a:=by
 unfold lF;by_cases h:a.length=b.length
 ·rw[aq (λe=>e h),aq (λe=>e h.symm),abS,h]
 ·rw[aw h,aw (λe=>h e.symm),TU]
def abU{n:Nat}:∀(j:Nat)(xs:List (List Int×Int)),n<xs.length→j≤n→(∀t,t+1<j→0≤lF (xs.getD (t+1) gh).1 (xs.getD t gh).1)→(∀t,j≤t→t<n→0≤lF (xs.getD (t+1) gh).1 (xs.getD t gh).1)→(j<n→0<j→0≤lF (xs.getD (j+1) gh).1 (xs.getD (j-1) gh).1)→abR (vR j xs) n
 |0,xs,_,_,_,h2,_=>λt ht=>h2 t (bK _) ht
 |j+1,xs,hn,hj,h1,h2,h3=>by
  rw[vR];split
  ·rename_i br;have hg:=λt=>amI (xs:=xs) (j:=j) af t
   refine abU j (xB xs j) (by rw[Ni];exact hn) af (λt ht=>?_) (λt EK vQ=>?_) (λ_ CC=>?_)
   ·rw[hg,hg,aq af,aq af,aq af,aq af];exact h1 t af
   ·rw[hg,hg];by_cases e:t=j
    ·subst e;rw[aq af,aw ae,aw ae,abT];omega
    ·rw[aq af,aq af];by_cases e2:t=j+1
     ·subst e2;rw[aq af,aw ae];exact h3 af af
     ·rw[aq af,aq e2];exact h2 t af vQ
   ·rw[hg,hg,aq af,aw ae,aq af,aq af];have:=h1 (j-1) af;rwa[show j-1+1=j by omega]at this
  ·rename_i tR;intro t ht;by_cases e:t<j
   ·exact h1 t af
   ·by_cases e2:t=j
    ·subst e2;omega
    ·exact h2 t af ht
def abV(xs:List (List Int×Int)):∀i,i<xs.length→abR (mh xs i) i
 |0,_=>λt ht=>by omega
 |i+1,h=>by have ih:=abV xs i af;rw[mh];exact abU (i+1) _ (by rw[FE];exact h) (bD _) (λt ht=>ih t af) (λt h1 h2=>by omega) (λh1=>by omega)
def abW(x:List Int×Int):js (.a (List.take 2 (List.drop 0 (av MT x))))=some (av MT x):=by rcases x with⟨a,b⟩;rfl
set_option maxRecDepth 100000 in
set_option maxHeartbeats 4000000 in
def amJ(xs:List (List Int×Int))(hl:xs.length≤12)(hx:∀x∈xs,x.1.length≤1000):nf Tryz.prog 185 [.c (.X 0),cI 0,cI xs.length,mc 65] 33 MT xs (.t []) (mh xs (xs.length-1)):=by
 refine qJ Tryz.func185 ae ae ae ae ae ak ?_;refine rr ae ?_;refine aH (bA (α:=Nat) (λi=>⟨[(0,.c (.X 0)),(1,cI 0),(2,cI xs.length),(3,mc 65),(8,cI i)],[(0,.vec 33 MT (mh xs (i-1)))],2,[]⟩) (λi=>1≤i∧i-1≤xs.length-1) (λi=>xs.length-i) 1 ⟨bD _,bK _⟩ (wk ⟨sR ae,sR ae,sR ae,sR ae,sR ae,ah⟩ ⟨bE ae ae,ah⟩) ?_);rintro i ⟨tZ,hi⟩;refine aj (rr ae (ax ae (λh=>?_) (λh=>?_)))
 ·have h:i<xs.length:=by have h:(i:Int)<(xs.length:Int):=a9 h;omega
  have hS:mh xs i=vR i (mh xs (i-1)):=by obtain⟨q,rfl⟩:∃q,i=q+1:=⟨i-1,by omega⟩;rfl
  refine aC (ai (aj (aH (rr ae ?_))));refine aH (bA (α:=Nat×List (List Int×Int)) (λx=>⟨[(0,.c (.X 0)),(1,cI 0),(2,cI xs.length),(3,mc 65),(8,cI i),(9,cI x.1)],[(0,.vec 33 MT x.2)],4,[]⟩) (λx=>vR x.1 x.2=mh xs i∧x.1≤i∧x.2.length=xs.length∧∀y∈x.2,y.1.length≤1000) (λx=>x.1) (i,mh xs (i-1)) ⟨hS.symm,bD _,FE xs _,λy hy=>hx y (amH af hy)⟩ bY ?_);rintro⟨j,ys⟩ ⟨fo,jC,nY,sj⟩;simp only at fo jC nY sj;refine aj (rb (rg 21 ae ae (λh1=>?_) (λh1=>?_)))
  ·have h1:0<j:=by have h1:(j:Int)>0:=a9 h1;omega
   obtain⟨j,rfl⟩:∃q,j=q+1:=⟨j-1,by omega⟩;have e1:(((j+1:Nat):Int)).toNat=j+1:=bu _;have e2:(((j+1:Nat):Int)-1).toNat=j:=af;have g1:ys.getD (j+1) gh∈ys:=by rw[getM af];exact k6 _
   have g2:ys.getD j gh∈ys:=by rw[getM af];exact k6 _
   have hc:aG Tryz.prog 65 ([]++([.a (av MT (ys.getD (((j+1:Nat):Int)).toNat gh)),.a (av MT (ys.getD (((j+1:Nat):Int)-1).toNat gh))]++[])) (cI (lF (ys.getD (j+1) gh).1 (ys.getD j gh).1)):=by rw[e1,e2];exact amF _ _ (sj _ g1) (sj _ g2)
   rw[vR]at fo;refine S5 ae ae ae ae ae (.inl ⟨ae,ae,ae⟩) ae hc (re ae (ax ae (λh2=>?_) (λh2=>?_))) (hp:=aN)
   ·have h2:lF (ys.getD (j+1) gh).1 (ys.getD j gh).1<0:=a9 h2;rw[aw h2]at fo;refine aC (ai (aj (aH (cK (lV (ys.getD j gh) ae ae ae ae ?_ ?_ (lV (ys.getD (j+1) gh) ae ae ae ae ?_ ?_ (re ae ?_) (hp:=?_)) (hp:=?_))))))
    ·show js (.a (List.take 2 (List.drop 0 (av MT (ys.getD (((j+1:Nat):Int)-1).toNat gh)))))=_;rw[e2];exact abW _
    ·show(((j+1:Nat):Int)).toNat<ys.length;omega
    ·show js (.a (List.take 2 (List.drop 0 (av MT (ys.getD (((j+1:Nat):Int)).toNat gh)))))=_;rw[e1];exact abW _
    ·show(((j+1:Nat):Int)-1).toNat<(ys.set _ _).length;rw[gO];omega
    ·refine a6 (ai (rt ae (hp:=aN) (a8 (j,xB ys j) ⟨fo,by show j≤i;omega,by rw[Ni];exact nY,λy hy=>sj y ((abP af).mem_iff.1 hy)⟩ po (wk ⟨sR ae,sR ae,sR ae,sR ae,sR ae,⟨_,ae,?_⟩,ah⟩ ⟨bE ae ?_,ah⟩))))
     ·exact au.of_eq (ay (λz=>AV.c (C.I .i64 z)) (show((j+1:Nat):Int)-1=(j:Int)by omega))
     ·show aK.vec 33 MT ((ys.set (((j+1:Nat):Int)).toNat _).set (((j+1:Nat):Int)-1).toNat _)=_;rw[e1,e2];rfl
    ·show 0≤((j+1:Nat):Int)-1∧((j+1:Nat):Int)-1<((ys.set _ _).length:Int);rw[gO];omega
    ·simp only[Pr.an,Pr.h,num,aA,true_and,and_true];omega
   ·have h2:¬lF (ys.getD (j+1) gh).1 (ys.getD j gh).1<0:=bC h2;rw[aq h2]at fo;subst fo;exact bh (bt (bq (bp (a6 (ai (rt ae (hp:=aN) (a8 (i+1) ⟨by omega,by omega⟩ Gs (wk ⟨sR ae,sR ae,sR ae,sR ae,sE ae ae,ah⟩ ⟨bR ae,ah⟩))))))))
  ·have h1:j=0:=by have h1:¬(j:Int)>0:=bC h1;omega
   subst h1;have fo:ys=mh xs i:=fo;subst fo;exact re ae (ax ae (λh2=>by cases h2) (λ_=>bh (bt (bq (bp (a6 (ai (rt ae (hp:=aN) (a8 (i+1) ⟨by omega,by omega⟩ Gs (wk ⟨sR ae,sR ae,sR ae,sR ae,sE ae ae,ah⟩ ⟨bR ae,ah⟩))))))))))
 ·have h:i-1=xs.length-1:=by have h:¬(i:Int)<(xs.length:Int):=bC h;omega
  rw[h];exact bh (bt (bq (bp (Ah ar ae (au.refl _) ae))))
set_option maxRecDepth 100000 in
set_option maxHeartbeats 4000000 in
def amK(xs:List (List Int×Int))(hl:xs.length≤12)(hx:∀x∈xs,x.1.length≤1000)(t:Int):nf Tryz.prog 129 [.c (.X 0),cI 0,cI xs.length,cI t,mc 65] 33 MT xs (.t []) (mh xs (xs.length-1)):=by
 refine qJ Tryz.func129 ae ae ae ae ae ak ?_;refine rr ae (rr ae ?_);refine aH (bA (α:=Unit) (λ_=>⟨[(0,.c (.X 0)),(1,cI 0),(2,cI xs.length),(3,cI t),(4,mc 65)],[(0,.vec 33 MT xs)],3,[]⟩) (λ_=>True) (λ_=>0) () ah bY ?_);rintro- -;refine aH (rr ae (aj (rr ae (ax ae (λh=>?_) (λh=>?_)))))
 ·exact rb (n9 0 ae (amJ xs hl hx) ae ae (re ae (aF (bS (fq (gU (fq (uh ar ae (au.refl _) ae))))))))
 ·have h:¬((xs.length:Int)-0≤12):=bC h;omega
def amL(xs:List (List Int×Int))(hl:xs.length≤12)(hx:∀x∈xs,x.1.length≤1000):nf Tryz.prog 64 [.c (.X 0),mc 65] 33 MT xs (.t []) (mh xs (xs.length-1)):=by
 refine qJ Tryz.func64 ae ae ae ae ae ak ?_;refine rr ae ?_;have hlen:aG Tryz.prog 130 [AV.c (num .u64 (xs.length:Int)).1] (cI (qN xs.length)):=by rw[show(AV.c (num .u64 (xs.length:Int)).1)=cU (xs.length:Int)from ay (λx=>AV.c (C.I .u64 x)) (wrap_u64 _ af af)];exact LU _ hl
 refine cK (rc ae ae hlen (n9 0 ae (amK xs hl hx _) ae ae (re ae (Ah ar ae (au.refl _) ae))))
end Go.El
namespace Go.El
open Go Go.Proofs
def abX{m:Nat}(h:(az m).length≤2):m<18446744073709551616:=by have h1:=va (n:=m);have h3:(4294967296:Int)^2=18446744073709551616:=rfl;have h4:(4294967296:Int)^1=4294967296:=rfl;have h5:(4294967296:Int)^0=1:=rfl;rcases(show(az m).length=0∨(az m).length=1∨(az m).length=2 by omega)with e|e|e<;>rw[e]at h1<;>omega
def abY(a b:Int)(ha:Sm a)(hb:Sm b):aG Tryz.prog 203 [aZ a,aZ b] (aZ ((Int.gcd a b:Nat):Int)):=by
 refine aX Tryz.func203 ae ae ae ae ae ak ?_;have tY:∀m:Nat,aZ (sg false m)=aZ ((m:Nat):Int):=λm=>rfl
 refine rr ae (rb (rc ae ae (yD a.natAbs) (rc ae ae (LR _ ha) (rc ae ae (yD b.natAbs) (rc ae ae (LR _ hb) (re ae ?_ (ho:=qX fR)))))));refine aj (aH (bA (α:=Nat×Nat) (λx=>⟨[(4,.c (.P 2000 0)),(5,cS aE (az x.1)),(6,cS aE (az x.2))],[(2000,.box 44 0 [.B false,.V (.slice none 0 0)])],2,[]⟩) (λx=>Nat.gcd x.1 x.2=Int.gcd a b∧(az x.1).length≤1099511627776∧(az x.2).length≤1099511627776) (λx=>x.2) (a.natAbs,b.natAbs) ⟨ae,ha,hb⟩ (wk ⟨sR ae,sR ae,sR ae,ah⟩ ⟨bE ae ae,ah⟩) ?_));rintro⟨m,k⟩ ⟨hg,hm,hk⟩;simp only at hg hm hk;refine aj (rr ae (ax ae (λh=>?_) (λh=>?_)))
 ·have h:k≠0:=by have h:((az k).length:Int)>0:=a9 h;exact nh.1 af
  refine aC (ai (aH (yB ⟨[(4,.c (.P 2000 0)),(5,cS aE (az m)),(6,cS aE (az k))],[(2000,.box 44 0 [.B false,.V (.slice none 0 0)])],8,[]⟩ ?_ (λje=>rb (rg 25 ae ae (λh1=>re ae (ax ae (λh2=>?_) (λh2=>aC (nG je (wk ⟨sR ae,sR ae,sR ae,ah⟩ ⟨bE ae ae,ah⟩))))) (λh1=>re ae (ax ae (λh2=>by cases h2) (λh2=>aC (nG je (wk ⟨sR ae,sR ae,sR ae,ah⟩ ⟨bE ae ae,ah⟩))))))))))
  ·refine rb (rc ae ae (Zr m k h hm) (re ae (rt ae (a6 (a8 (k,m%k) ⟨?_,hk,?_⟩ (iy _ af) (wk ⟨sR ae,sR ae,sR ae,ah⟩ ⟨bE ae ae,ah⟩))))))
   ·show Nat.gcd k (m%k)=_;rw[←hg,Bq m k,Nat.gcd_rec k m,Bq]
   ·exact dF (te (KG (iy _ af))) hk
  ·have h1:(az m).length≤2:=by have h1:((az m).length:Int)≤2:=a9 h1;omega
   have h2:(az k).length≤2:=by have h2:((az k).length:Int)≤2:=a9 h2;omega
   have b1:=abX h1;have b2:=abX h2;refine rb (rc ae ae (RZ m b1) (rc ae ae (RZ k b2) (re ae ?_)));refine aj (aH (bA (α:=Nat×Nat) (λx=>⟨[(4,.c (.P 2000 0)),(7,cU x.1),(8,cU x.2)],[(2000,.box 44 0 [.B false,.V (.slice none 0 0)])],10,[]⟩) (λx=>Nat.gcd x.1 x.2=Int.gcd a b∧x.1<18446744073709551616∧x.2<18446744073709551616) (λx=>x.2) (m,k) ⟨hg,b1,b2⟩ (wk ⟨sR ae,sR ae,sR ae,ah⟩ ⟨bE ae ae,ah⟩) ?_));rintro⟨u,v⟩ ⟨g1,g2,g3⟩;simp only at g1 g2 g3;refine aj (rr ae (ax ae (λh3=>?_) (λh3=>?_)))
   ·have h3:0<v:=by have h3:(v:Int)>0:=a9 h3;omega
    have br:=iy u h3;refine aC (ai (aH (rt ae (a6 (a8 (v,u%v) ⟨?_,g3,by show u%v<_;omega⟩ br (wk ⟨sR ae,sR ae,sE ae ?_,ah⟩ ⟨bE ae ae,ah⟩))) (hp:=?_))))
    ·show Nat.gcd v (u%v)=_;rw[←g1,Bq u v,Nat.gcd_rec v u,Bq]
    ·exact ay (λz=>AV.c (C.I .u64 z)) (lC u v)
    ·simp only[Pr.an,Pr.h,num,aA,true_and,and_true];omega
   ·have h3:v=0:=by have h3:¬(v:Int)>0:=bC h3;omega
    subst h3;rw[Kz]at g1;subst g1;refine bh (bt (bq (bp (ai (rb (rc ae ae (LQ _ g2) (rc ae ae (pP false _) (re ae (aF ?_)))))))));repeat(first|refine bS ?_|refine fq ?_|refine gU ?_)
    exact aL ar ae (au.refl _)
 ·have h:k=0:=by have h:¬((az k).length:Int)>0:=bC h;exact Decidable.byContradiction λaR=>by have:=nh.2 aR;omega
  subst h;rw[Kz]at hg;subst hg;exact bh (bt (bq (bp (ai (rb (rc ae ae (pP false _) (re ae (aF (aL ar ae (au.refl _))))))))))
def aW(n:Nat)(z:Int):Prop:=z.natAbs<4294967296^n
def aW.sm{n:Nat}{z:Int}(h:aW n z)(hn:n≤1099511627776):Sm z:=by
 refine dF (By (k:=n) ?_) hn;have:((z.natAbs:Nat):Int)<((4294967296^n:Nat):Int):=by have h:z.natAbs<4294967296^n:=h;omega
 rwa[uX]at this
def aW.le{m n:Nat}{z:Int}(h:aW m z)(k:m≤n):aW n z:=kv h (jV ak k)
def aW.mul{m n:Nat}{a b:Int}(h:aW m a)(k:aW n b):aW (m+n) (a*b):=by unfold aW at*;rw[uZ,py];exact Nat.mul_lt_mul'' h k
def aW.add{n:Nat}{a b:Int}(h:aW n a)(k:aW n b):aW (n+1) (a+b):=by unfold aW at*;have:=Int.natAbs_add_le a b;rw[jl];omega
def aW.neg{n:Nat}{a:Int}(h:aW n a):aW n (-a):=by unfold aW at*;rwa[Int.natAbs_neg]
def aW.sub{n:Nat}{a b:Int}(h:aW n a)(k:aW n b):aW (n+1) (a-b):=by rw[Ps];exact h.add k.neg
def aW.zero(n:Nat):aW n 0:=by unfold aW;exact nr ak
def aW.emod{n:Nat}{a m:Int}(hm:0<m)(h:aW n m):aW n (a%m):=by have h1:=gZ a (show m≠0 by omega);have h2:=iv a hm;unfold aW at*;omega
def aW.ediv{n:Nat}{a m:Int}(h0:0≤a)(hm:0<m)(h:aW n a):aW n (a/m):=by have h1:=xS h0 (show 0≤m by omega);have h2:=Int.ediv_le_self m h0;unfold aW at*;omega
def aW.lt{n:Nat}{a m:Int}(h0:0≤a)(hm:a<m)(h:aW n m):aW n a:=by unfold aW at*;omega
def aW.one{a:Int}(h:a.natAbs<4294967296):aW 1 a:=by unfold aW;rwa[Nat.pow_one]
def aW.pow{n:Nat}{a:Int}(h:aW n a):∀k,aW (n*k+1) (a^k)
 |0=>by unfold aW;simp
 |k+1=>by rw[fU];exact((aW.pow h k).mul h).le (by rw[GK];omega)
def amM(a:Int)(p:Nat)(cL:2≤p)(hp:p≤2147483648)(ha:Sm a):aG Tryz.prog 158 [aZ a,cU p] (cU (a%p)):=by refine aX Tryz.func158 ae ae ae ae ae ak ?_;have h1:=gZ a (show(p:Int)≠0 by omega);have h2:=iv a (show(0:Int)<p by omega);refine rr ae (rb (rc ae ae (oT p af af) (hp:=aN) (rc ae ae (xe a p af ha (Sm.of af)) (re ae ?_))));refine rb (rc ae ae (aka (a%p) h1 af) (re ae ?_));refine rr ae (aF (aL ar ae (au.of_eq (ay (λz=>AV.c (C.I .u64 z)) ?_))));exact wrap_u64 _ h1 af
set_option maxHeartbeats 1000000 in
def TV(a:List Int)(p:Nat)(la:a.length≤1000)(cL:2≤p)(hp:p≤2147483648)(ha:∀i,Sm (a.getD i 0)):aG Tryz.prog 96 [cS .z a,cU p] (aP (a7 (md p a)) p):=by
 refine aX Tryz.func96 ae ae ae ae ae ak ?_;have H6:=yF p a;refine rr ae (rb (rm aM a.length ae ae ae ae ae ae (lU .u64) ae ?_ ?_ (re ae (aj (rr ae ?_)))))
 ·show _*8≤_;omega
 ·show _*1≤_;omega
 refine aH (bA (α:=Nat) (λi=>⟨[(0,cS .z a),(1,cU p),(4,.c (.P 0 0)),(5,.c (.X 1002000)),(11,cI a.length),(12,cI i)],[(0,.box 101 0 [.V (.slice none 0 0),.I .u64 0]),(1002000,.vec 25 aM ((md p a).take i++List.replicate (a.length-i) 0))],3,[]⟩) (λi=>i≤a.length) (λi=>a.length-i) 0 (bK _) (wk ⟨sR ae,sR ae,sR ae,sR ae,sR ae,sR ae,ah⟩ ⟨bE ae ae,bE ae ?_,ah⟩) ?_)
 ·simp
 intro i hi;have hl:((md p a).take i).length=i:=cT;have tj:((md p a).take i++List.replicate (a.length-i) (0:Int)).length=a.length:=cT;refine rr ae (aj (ax ae (λh=>?_) (λh=>?_)))
 ·have h:i<a.length:=by have h:(i:Int)<(a.length:Int):=a9 h;omega
  have Nj:aG Tryz.prog 158 [.a (av .z (a.getD ((i:Int)).toNat 0)),cU p] (cU (a.getD i 0%p)):=by rw[bu];exact amM (a.getD i 0) p cL hp (ha i)
  refine aC (ai (aj (aH (rr ae (cK (rc ae ae Nj (hp:=aN) (re ae (hp:=aN) (a6 (ai (rt ae (a8 (i+1) h oF (wk ⟨sR ae,sR ae,sR ae,sR ae,sR ae,sR ae,ah⟩ ⟨bE ae ae,bE ae ?_,ah⟩))))))))))));refine ay (aK.vec 25 aM) ?_;have e2:=LW ((md p a).take i) (a.length-(i+1)) (a.getD i 0%p);rw[hl,show a.length-(i+1)+1=a.length-i by omega]at e2;rw[bu,e2,pQ _ i af,Ie]
 ·have h:i=a.length:=by have h:¬(i:Int)<(a.length:Int):=bC h;omega
  subst h;rw[iw,wD,kB,lI af];exact bh (bt (bq (bp (ai (fY 1002000 ae ae ae (rb (rc ae ae (ER (md p a) p af) (re ae (aF (aL ar ae (au.refl _)))))))))))
def amN{m:Nat}(h:(az m).length=1):(m:Int)=(az m).getD 0 0:=by
 have:=ff m;rw[←this];match hw:az m,h with
 |[w],_=>show w+4294967296*0=w;omega
def FF(a:Int):aG Tryz.prog 221 [aZ a] (cB (decide (a=1))):=by
 refine aX Tryz.func221 ae ae ae ae ae ak ?_;refine rr ae (rb (rg 6 ae ae (λh=>?_) (λh=>?_)))
 ·have h0:0≤a:=by have h:(!bN a)=true:=h;simpa[bN]using h
  refine rg 12 ae ae (λh1=>?_) (λh1=>?_)
  ·have h1:(az a.natAbs).length=1:=by have h1:((az a.natAbs).length:Int)=1:=eq_of_beq h1;omega
   have h1z:(dc a).length=1:=h1;refine re ae (aF (aL ar ae (au.of_eq (ay cB ?_)))) (hp:=?_)
   ·show(((az a.natAbs).getD 0 0)==1)=decide (a=1);have:=amN h1;by_cases e:a=1
    ·subst e;rfl
    ·rw[kC e];exact beq_eq_false_iff_ne.2 (λe2=>e af)
   ·simp only[Pr.an,Pr.h,num,aA,true_and,and_true];first|done|omega
  ·refine re ae (aF (aL ar ae (au.of_eq (ay cB ?_))));rw[kC];intro e;subst e;cases h1
 ·have h0:a<0:=by have h:(!bN a)=false:=h;simpa[bN]using h
  refine rg 12 ae ae (λh1=>by cases h1) (λh1=>?_);refine re ae (aF (aL ar ae (au.of_eq (ay cB ?_))));rw[kC af]
def CO(x y:Int)(hx:Sm x)(hy:Sm y):aG Tryz.prog 150 [cS .z [x,y]] (aZ (x*y)):=by
 refine aX Tryz.func150 ae ae ae ae ae ak ?_;refine rr ae (rb (rc ae ae (oT 1 ak ak) (re ae (aj (rr ae ?_)))));refine aH (bA (α:=Nat) (λi=>⟨[(7,cS .z [x,y]),(2,.c (.P 0 0)),(3,.c (.P 1001000 0)),(8,cI 2),(9,cI i)],[(0,.box 44 0 [.B false,.V (.slice none 0 0)]),(1001000,.box 44 0 (av .z (if i=0 then 1 else if i=1 then x else x*y)))],3,[]⟩) (λi=>i≤2) (λi=>2-i) 0 ak (wk ⟨sR ae,sR ae,sR ae,sR ae,sR ae,ah⟩ ⟨bE ae ae,bE ae ae,ah⟩) ?_);intro i hi;rcases(show i=0∨i=1∨i=2 by omega)with e|e|e
 ·subst e;refine rr ae (aj (ax ae (λ_=>aC (ai ?_)) (λh=>by cases h)));refine aj (aH (rr ae (aH (rb (rc ae ae (FF x) (re ae (ax ae (λh=>aC ?_) (λh=>?_)))))) (hp:=by simp[Pr.an,Pr.h,num,aA])))
  ·have h:x=1:=a9 h;subst h;exact a6 (a6 (ai (rt ae (hp:=aN) (a8 1 ak ak (wk ⟨sR ae,sR ae,sR ae,sR ae,sR ae,ah⟩ ⟨bE ae ae,bE ae ae,ah⟩)))))
  ·refine rb (rc ae ae (FF 1) (re ae (ax ae (λh=>?_) (λh=>by cases h))));exact rt ae (a6 (a6 (ai (rt ae (hp:=aN) (a8 1 ak ak (wk ⟨sR ae,sR ae,sR ae,sR ae,sR ae,ah⟩ ⟨bE ae ae,bE ae ae,ah⟩))))))
 ·subst e;refine rr ae (aj (ax ae (λ_=>aC (ai ?_)) (λh=>by cases h)));refine aj (aH (rr ae (aH (rb (rc ae ae (FF y) (re ae (ax ae (λh=>aC ?_) (λh=>?_)))))) (hp:=by simp[Pr.an,Pr.h,num,aA])))
  ·have h:y=1:=a9 h;subst h;refine a6 (a6 (ai (rt ae (hp:=aN) (a8 2 ak ak (wk ⟨sR ae,sR ae,sR ae,sR ae,sR ae,ah⟩ ⟨bE ae ae,bE ae ?_,ah⟩)))));show aK.box 44 0 (av .z x)=aK.box 44 0 (av .z (x*1));rw[ns]
  ·refine rb (rc ae ae (FF x) (re ae (ax ae (λh=>?_) (λh=>?_))))
   ·have h:x=1:=a9 h;subst h;refine rt ae (a6 (a6 (ai (rt ae (hp:=aN) (a8 2 ak ak (wk ⟨sR ae,sR ae,sR ae,sR ae,sR ae,ah⟩ ⟨bE ae ae,bE ae ?_,ah⟩))))));show aK.box 44 0 (av .z y)=aK.box 44 0 (av .z (1*y));rw[ja]
   ·exact cK (rc ae ae (uu x y hx hy) (re ae (a6 (a6 (ai (rt ae (hp:=aN) (a8 2 ak ak (wk ⟨sR ae,sR ae,sR ae,sR ae,sR ae,ah⟩ ⟨bE ae ae,bE ae ae,ah⟩))))))))
 ·subst e;refine rr ae (aj (ax ae (λh=>by cases h) (λ_=>?_)));exact bh (bt (bq (bp (ai (rr ae (aF (aL ar ae (au.refl _))))))))
structure QS(k:Nat)(r:Rat):Prop where
 n:aW k r.num
 d:aW k (r.den:Int)
def QS.le{j k:Nat}{r:Rat}(h:QS j r)(hk:j≤k):QS k r:=⟨h.n.le hk,h.d.le hk⟩
def abZ{a:Int}:cN a<0↔a<0:=by unfold cN;split<;>(try split)<;>omega
def uD{a:Int}:cN a=0↔a=0:=by unfold cN;split<;>(try split)<;>omega
def I2{r:Rat}{n d:Int}(h1:r.num=n)(h2:(r.den:Int)=d):AV.a [C.B (bN n),C.S aE (dc n),C.B (bN d),C.S aE (dc d)]=aQ r:=by subst h1 h2;rfl
def TW{n d:Int}(hd:0<d):(Rat.divInt n d).num=n/((Int.gcd n d:Nat):Int)∧((Rat.divInt n d).den:Int)=d/((Int.gcd n d:Nat):Int):=by have:=HW n d af;rwa[aq af]at this
def Nk{n d:Int}(hd:0<d)(h:Int.gcd n d=1):(Rat.divInt n d).num=n∧((Rat.divInt n d).den:Int)=d:=by have:=TW (n:=n) hd;rwa[h,show(((1:Nat):Int))=1 from ae,zD,zD]at this
def Nl(n d:Int)(hd:0<d)(hn:Sm n)(I3:Sm d):aG Tryz.prog 258 [aZ n,aZ d] (aQ (Rat.divInt n d)):=by
 refine aX Tryz.func258 ae ae ae ae ae ak ?_;obtain⟨p1,p2⟩:=TW (n:=n) hd;have RJ:Int.gcd n d≠0:=λh0=>by have:=(Po.1 h0).2;omega
 have hgS:Sm ((Int.gcd n d:Nat):Int):=dF (te (show(((Int.gcd n d:Nat):Int)).natAbs≤d.natAbs from Nat.gcd_le_right _ af)) I3;refine rr ae (aj (rb (rc ae ae (FF d) (re ae (ax ae (λh=>?_) (λ_=>aC (ai ?_)))))))
 ·have h:d=1:=a9 h;subst h;obtain⟨c1,c2⟩:=Nk (n:=n) ak (Int.gcd_one_right ..);exact rr ae (aF (bS (aL ar ae (au.of_eq (I2 c1 c2)))))
 refine rb (rc ae ae (abY n d hn I3) (re ae (aj (rb (rc ae ae (FF _) (re ae (ax ae (λh=>?_) (λ_=>aC (ai ?_)))))))))
 ·have h:((Int.gcd n d:Nat):Int)=1:=a9 h;obtain⟨c1,c2⟩:=Nk hd (Int.ofNat.inj h);exact rr ae (aF (bS (aL ar ae (au.of_eq (I2 c1 c2)))))
 refine rb (rc ae ae (xe n _ af hn hgS) (re ae (rb (rc ae ae (xe d _ af I3 hgS) (re ae (rr ae (aF (aL ar ae (au.of_eq (I2 p1 p2))))))))))
def amO(n d:Int)(hd:0<d)(hn:Sm n)(I3:Sm d):aG Tryz.prog 205 [aZ n,aZ d] (.t [(true,av .q (Rat.divInt n d)),(false,[.I .i64 0])]):=by
 refine aX Tryz.func205 ae ae ae ae ae ak ?_;refine rr ae (aj (rb (rc ae ae (Aq d) (re ae (ax ae (λh=>?_) (λ_=>aC (ai ?_)))))))
 ·exfalso;have h:cN d=0:=eq_of_beq h;have:=uD.1 h;omega
 refine aj (rb (rc ae ae (Aq d) (re ae (ax ae (λh=>?_) (λ_=>aC (ai ?_))))))
 ·exfalso;have h:cN d<0:=a9 h;have:=abZ.1 h;omega
 exact rb (rc ae ae (Nl n d hd hn I3) (re ae (aF (aL ar ae (au.refl _)))))
def den_pos(a:Rat):0<(a.den:Int):=by have:=a.den_nz;omega
def ab1(a:Rat)(ha:Sm a.num):aG Tryz.prog 77 [aQ a] (aQ (-a)):=by refine aX Tryz.func77 ae ae ae ae ae ak ?_;refine rr ae (rb (rc ae ae (LS a.num ha) (re ae (aF (aL ar ae (au.of_eq (I2 ae ae)))))))
def I4(q:Rat):aG Tryz.prog 148 [aQ q] (cI (cN q.num)):=by refine aX Tryz.func148 ae ae ae ae ae ak ?_;exact rr ae (rb (rc ae ae (Aq q.num) (re ae (aF (aL ar ae (au.refl _))))))
def amP(n:Int):aG Tryz.prog 279 [aZ n] (aQ (n:Rat)):=by refine aX Tryz.func279 ae ae ae ae ae ak ?_;exact rr ae (rb (rc ae ae (oT 1 ak ak) (re ae (aF (aL ar ae (au.of_eq ae))))))
def Nm(n:Int)(h0: -9223372036854775808≤n)(h1:n≤9223372036854775807):aG Tryz.prog 247 [cI n] (aQ (n:Rat)):=by refine aX Tryz.func247 ae ae ae ae ae ak ?_;exact rr ae (rb (rc ae ae (oT n h0 h1) (rc ae ae (amP n) (re ae (aF (aL ar ae (au.refl _)))))))
def TX(a:Rat)(h0:a.num≠0)(hn:Sm a.num)(hd:Sm (a.den:Int)):aG Tryz.prog 252 [aQ a] (.t [(true,av .q a⁻¹),(false,[.I .i64 0])]):=by
 refine aX Tryz.func252 ae ae ae ae ae ak ?_;have hp:=den_pos a;have oZ:Int.gcd (a.den:Int) a.num=1:=by have:=a.reduced;rw[Int.gcd_comm];exact this
 refine rr ae (aj (rb (rc ae ae (Aq a.num) (re ae (aH (rr ae (ax ae (λh=>?_) (λh=>?_))))))))
 ·exfalso;have h:cN a.num=0:=eq_of_beq h;exact h0 (uD.1 h)
 refine rr ae (ax ae (λh=>?_) (λh=>?_))
 ·have h:cN a.num= -1:=eq_of_beq h;have h:a.num<0:=abZ.1 af;have e:(a⁻¹).num= -(a.den:Int)∧(((a⁻¹).den:Nat):Int)= -a.num:=by
   rw[Rat.inv_def];have:=HW (a.den:Int) a.num h0;rw[aw h,oZ]at this;rw[this.1,this.2];constructor
   ·rw[show-(((1:Nat):Int))= -1 from ae,DM,zD]
   ·rw[show-(((1:Nat):Int))= -1 from ae,DM,zD]
  refine rb (rc ae ae (LS (a.den:Int) hd) (rc ae ae (LS a.num hn) (re ae (aF ?_))));repeat(first|refine bS ?_|refine fq ?_|refine gU ?_)
  refine aL ar ae (au.of_eq ?_);show AV.t [(true,[C.B (bN (-(a.den:Int))),C.S aE (dc (-(a.den:Int))),C.B (bN (-a.num)),C.S aE (dc (-a.num))]),(false,[C.I .i64 0])]=_;rw[←e.1,←e.2];rfl
 ·have h:¬cN a.num= -1:=kU h;have h:0<a.num:=by
   unfold cN at h;split at h
   ·omega
   ·omega
  have e:(a⁻¹).num=(a.den:Int)∧(((a⁻¹).den:Nat):Int)=a.num:=by rw[Rat.inv_def];exact Nk h oZ
  refine aC (a6 (ai ?_));refine rr ae (aF (aL ar ae (au.of_eq ?_)));show AV.t [(true,[C.B (bN (a.den:Int)),C.S aE (dc (a.den:Int)),C.B (bN a.num),C.S aE (dc a.num)]),(false,[C.I .i64 0])]=_;rw[←e.1,←e.2];rfl
def amQ{k:Nat}(a b:Rat)(ha:QS k a)(hb:QS k b)(hk:k≤100000000000):aG Tryz.prog 280 [aQ a,aQ b] (aQ (a+b)):=by
 refine aX Tryz.func280 ae ae ae ae ae ak ?_;have m1:=ha.n.mul hb.d;have m2:=hb.n.mul ha.d;have m3:=ha.d.mul hb.d;have hs:=m1.add m2;have I5:=ha.n.sm af;have FG:=ha.d.sm af;have I6:=hb.n.sm af;have FI:=hb.d.sm af;have hd:=Bu (den_pos a) (den_pos b);have e:Rat.divInt (a.num*(b.den:Int)+b.num*(a.den:Int)) ((a.den:Int)*(b.den:Int))=a+b:=by have h1:=den_pos a;have h2:=den_pos b;rw[←WH _ _ af af,rC,rC]
 rw[←e];refine rr ae (rb (rl .z [a.num,(b.den:Int)] ae ae (rc ae ae (CO _ _ I5 FI) (rl .z [b.num,(a.den:Int)] ae ae (rc ae ae (CO _ _ I6 FG) (rc ae ae (Av _ _ (m1.sm af) (m2.sm af)) (re ae ?_)))))));exact rb (rl .z [(a.den:Int),(b.den:Int)] ae ae (rc ae ae (CO _ _ FG FI) (rc ae ae (Nl _ _ hd (hs.sm af) (m3.sm af)) (re ae (aF (aL ar ae (au.refl _)))))))
def ab2{a b c d:Int}(h:Int.gcd a b=1)(h1:c∣a)(h2:d∣b):Int.gcd c d=1:=by have h3:((Int.gcd c d:Nat):Int)∣((Int.gcd a b:Nat):Int):=Int.dvd_coe_gcd (KF (Int.gcd_dvd_left ..) h1) (KF (WS ..) h2);rw[h]at h3;have:=Int.ofNat_dvd.1 h3;exact Nat.dvd_one.1 this
def TY{n d:Int}(hd:0<d):(Rat.divInt n d).num∣n∧(((Rat.divInt n d).den:Nat):Int)∣d:=by obtain⟨h1,h2⟩:=TW (n:=n) hd;rw[h1,h2];exact⟨⟨_,(Int.ediv_mul_cancel (Int.gcd_dvd_left ..)).symm⟩,⟨_,(Int.ediv_mul_cancel (WS ..)).symm⟩⟩
def aW.dvd{n:Nat}{a b:Int}(h:aW n a)(hd:b∣a)(h0:a≠0):aW n b:=by have:=rE af (Kv.2 hd);unfold aW at*;omega
def I7{k:Nat}{n d:Int}(hd:0<d)(hn:aW k n)(hk:aW k d):QS k (Rat.divInt n d):=by
 obtain⟨h1,h2⟩:=TY (n:=n) hd;refine⟨?_,hk.dvd h2 af⟩;by_cases e:n=0
 ·subst e;rw[Rat.zero_divInt];exact aW.zero _
 ·exact hn.dvd h1 e
def QS.add{k:Nat}{a b:Rat}(ha:QS k a)(hb:QS k b):QS (2*k+1) (a+b):=by
 have h1:=den_pos a;have h2:=den_pos b;have e:Rat.divInt (a.num*(b.den:Int)+b.num*(a.den:Int)) ((a.den:Int)*(b.den:Int))=a+b:=by rw[←WH _ _ af af,rC,rC]
 rw[←e];exact I7 (Bu h1 h2) (((ha.n.mul hb.d).add (hb.n.mul ha.d)).le af) ((ha.d.mul hb.d).le af)
def QS.mul{k:Nat}{a b:Rat}(ha:QS k a)(hb:QS k b):QS (2*k) (a*b):=by
 have h1:=den_pos a;have h2:=den_pos b;have e:Rat.divInt (a.num*b.num) ((a.den:Int)*(b.den:Int))=a*b:=by rw[←Kw,rC,rC]
 rw[←e];exact I7 (Bu h1 h2) ((ha.n.mul hb.n).le af) ((ha.d.mul hb.d).le af)
def QS.neg{k:Nat}{a:Rat}(ha:QS k a):QS k (-a):=⟨ha.n.neg,ha.d⟩
def TZ{k:Nat}(a b:Rat)(ha:QS k a)(hb:QS k b)(hk:k≤100000000000):aG Tryz.prog 246 [aQ a,aQ b] (aQ (a*b)):=by
 refine aX Tryz.func246 ae ae ae ae ae ak ?_;have I5:=ha.n.sm af;have FG:=ha.d.sm af;have I6:=hb.n.sm af;have FI:=hb.d.sm af;have hL:=I7 (n:=a.num) (den_pos b) ha.n hb.d;have hR:=I7 (n:=b.num) (den_pos a) hb.n ha.d;obtain⟨l1,l2⟩:=TY (n:=a.num) (den_pos b);obtain⟨r1,r2⟩:=TY (n:=b.num) (den_pos a);have EN:=Nl a.num (b.den:Int) (den_pos b) I5 FI;have hq2:=Nl b.num (a.den:Int) (den_pos a) I6 FG;have e:Rat.divInt a.num (b.den:Int)*Rat.divInt b.num (a.den:Int)=a*b:=by rw[Kw,fh (b.den:Int),←Kw,rC,rC]
 have ca:Int.gcd a.num (a.den:Int)=1:=a.reduced;have cb:Int.gcd b.num (b.den:Int)=1:=b.reduced;generalize Rat.divInt a.num (b.den:Int)=L at*;generalize Rat.divInt b.num (a.den:Int)=R at*;have oZ:Int.gcd (L.num*R.num) ((L.den:Int)*(R.den:Int))=1:=by have c1:Int.gcd L.num (L.den:Int)=1:=L.reduced;have c2:Int.gcd R.num (R.den:Int)=1:=R.reduced;have c3:=ab2 ca l1 r2;have c4:=ab2 cb r1 l2;have n1:Nat.Coprime L.num.natAbs L.den:=c1;have n2:Nat.Coprime R.num.natAbs R.den:=c2;have n3:Nat.Coprime L.num.natAbs R.den:=c3;have n4:Nat.Coprime R.num.natAbs L.den:=c4;show Nat.gcd (L.num*R.num).natAbs ((L.den:Int)*(R.den:Int)).natAbs=1;rw[uZ,uZ];exact Nat.Coprime.mul_left (Nat.Coprime.mul_right n1 n3) (Nat.Coprime.mul_right n4 n2)
 obtain⟨c1,c2⟩:=Nk (Bu (den_pos L) (den_pos R)) oZ;rw[←Kw,rC,rC,e]at c1 c2;refine rr ae (rb (rc ae ae EN (re ae (rb (rc ae ae hq2 (re ae ?_))))));refine rb (rl .z [L.num,R.num] ae ae (rc ae ae (CO _ _ (hL.n.sm af) (hR.n.sm af)) (rl .z [(L.den:Int),(R.den:Int)] ae ae (rc ae ae (CO _ _ (hL.d.sm af) (hR.d.sm af)) (re ae (aF (aL ar ae (au.of_eq (I2 c1 c2)))))))))
def fQ(a b:Rat):Int:=if a<b then-1 else if b<a then 1 else 0
def ab4{a b:Rat}(h:cN a.num<cN b.num):a<b:=by
 rw[KO];have T0:=den_pos a;have hdb:=den_pos b;have h1:(a.num<0∧0≤b.num)∨(a.num=0∧0<b.num):=by unfold cN at h;split at h<;>(try split at h)<;>(try split at h)<;>omega
 rcases h1 with⟨h1,h2⟩|⟨h1,h2⟩
 ·have:=Int.mul_neg_of_neg_of_pos h1 hdb;have:=jX h2 (Bs T0);omega
 ·rw[h1,kO];exact Bu h2 T0
def ab6{k:Nat}(a b:Rat)(ha:QS k a)(hb:QS k b)(hk:k≤100000000000):aG Tryz.prog 79 [aQ a,aQ b] (cI (fQ a b)):=by
 refine aX Tryz.func79 ae ae ae ae ae ak ?_;have I5:=ha.n.sm af;have FG:=ha.d.sm af;have I6:=hb.n.sm af;have FI:=hb.d.sm af;have T0:=den_pos a;have hdb:=den_pos b;have e:fQ a b=dz (a.num*(b.den:Int)) (b.num*(a.den:Int)):=by unfold fQ dz;simp only[KO]
 refine rr ae (aj (rb (rc ae ae (I4 a) (rc ae ae (I4 b) (re ae (rr ae (ax ae (λh=>?_) (λh=>aC (ai ?_)))))))))
 ·have h:cN a.num≠cN b.num:=oU h;refine aj (rr ae (ax ae (λh2=>?_) (λh2=>aC (ai ?_))))
  ·have h2:cN a.num<cN b.num:=a9 h2;refine rr ae (aF (bS (bS (aL ar ae (au.of_eq (ay cI ?_))))));rw[fQ,aw (ab4 h2)]
  ·have h2:¬cN a.num<cN b.num:=bC h2;refine rr ae (aF (bS (aL ar ae (au.of_eq (ay cI ?_)))));have h3:b<a:=ab4 af;have h4:¬a<b:=λh4=>by rw[KO]at h3 h4;omega
   rw[fQ,aq h4,aw h3]
 ·rw[e];exact rb (rl .z [a.num,(b.den:Int)] ae ae (rc ae ae (CO _ _ I5 FI) (rl .z [b.num,(a.den:Int)] ae ae (rc ae ae (CO _ _ I6 FG) (rc ae ae (LX _ _) (re ae (aF (aL ar ae (au.refl _)))))))))
def ab7(a:List Int){X:Nat}(ha:∀i,(a.getD i 0).natAbs≤X):∀i,nH a i≤i*X
 |0=>by simp[nH]
 |i+1=>by have:=ab7 a ha i;have:=ha i;rw[nH,fV];omega
def T2(a:List Int){w:Nat}(ha:∀i,aW w (a.getD i 0)){i:Nat}(hi:i≤13):aW (w+1) ((nH a i:Nat):Int):=by unfold aW at*;have h1:=ab7 a (λi=>KG (ha i)) i;have h2:=eJ (4294967296^w) hi;have h3:=nr (n:=w) (show 0<4294967296 by decide);rw[pt,jl];omega
set_option maxHeartbeats 2000000 in
def ab8(a:List Int)(w:Nat)(hw:w≤1000)(la:a.length≤13)(ha:∀i,aW w (a.getD i 0)):aG Tryz.prog 33 [cS .z a] (aZ (fk a:Nat)):=by
 refine aX Tryz.func33 ae ae ae ae ae ak ?_;refine rr ae (rb (rc ae ae (oT 0 ak ak) (re ae (aj (rr ae ?_)))));refine aH (bA (α:=Nat) (λi=>⟨[(0,cS .z a),(2,.c (.P 0 0)),(3,.c (.P 1001000 0)),(11,cS .z a),(12,cI a.length),(13,cI i)],[(0,.box 44 0 [.B false,.V (.slice none 0 0)]),(1001000,.box 44 0 (av .z ((nH a i:Nat):Int)))],3,[]⟩) (λi=>i≤a.length) (λi=>a.length-i) 0 (bK _) (wk ⟨sR ae,sR ae,sR ae,sR ae,sR ae,sR ae,ah⟩ ⟨bE ae ae,bE ae ae,ah⟩) ?_);intro i hi;refine rr ae (aj ?_);refine ax ae (λh=>?_) (λh=>?_)
 ·have h:i<a.length:=by simpa using h
  have hai:Sm (a.getD i 0):=(ha i).sm af;have ab9:Sm (((a.getD i 0).natAbs:Nat):Int):=aW.sm (n:=w) (by have:=ha i;unfold aW at*;rwa[pt]) af;have sk:Sm ((nH a i:Nat):Int):=(T2 a ha (by omega:i≤13)).sm af;refine aC (ai (aj (aH (rr ae (aj (rb (rc ae ae (Aq (a.getD (i:Int).toNat 0)) (re ae ?_))))))));rw[bu];refine ax ae (λh2=>?_) (λh2=>?_)
  ·have h2:a.getD i 0<0:=akc gY;have en:(((a.getD i 0).natAbs:Nat):Int)= -(a.getD i 0):=af;have pX:=Av ((nH a i:Nat):Int) (((a.getD i 0).natAbs:Nat):Int) sk ab9;rw[en]at pX;refine cK (rc ae ae (LS (a.getD i 0) hai) (re ae (ai (cK (rc ae ae pX (re ae ?_))))));refine a6 (ai (rt ae (a8 (i+1) h oF (wk ⟨sR ae,sR ae,sR ae,sR ae,sR ae,sE ae ?_,ah⟩ ⟨bE ae ae,bE ae ?_,ah⟩))))
   ·exact ay cI af
   ·rw[←en];rfl
  ·have h2:¬a.getD i 0<0:=λe=>by rw[akd e]at h2;cases h2
   have en:(((a.getD i 0).natAbs:Nat):Int)=a.getD i 0:=af;have pX:=Av ((nH a i:Nat):Int) (((a.getD i 0).natAbs:Nat):Int) sk ab9;rw[en]at pX;refine aC (ai (cK (rc ae ae pX (re ae ?_))));refine a6 (ai (rt ae (a8 (i+1) h oF (wk ⟨sR ae,sR ae,sR ae,sR ae,sR ae,sE ae ?_,ah⟩ ⟨bE ae ae,bE ae ?_,ah⟩))))
   ·exact ay cI af
   ·rw[←en];rfl
 ·have h:¬i<a.length:=by simpa using h
  have hi:i=a.length:=af;subst hi;have sk:Sm ((nH a a.length:Nat):Int):=(T2 a ha la).sm af;refine bh (bt (bq (bp (ai (rb (rc ae ae (oT 2 ak ak) (re ae (aj (rr ae ?_)))))))));refine aH (bA (α:=Nat) (λk=>⟨[(0,cS .z a),(2,.c (.P 0 0)),(3,.c (.P 1001000 0)),(6,.c (.P 4001000 0)),(7,cI (if k=0 then(a.length:Int)-1 else(a.length:Int)-1-4096))],[(0,.box 44 0 [.B false,.V (.slice none 0 0)]),(1001000,.box 44 0 (av .z ((if k=0 then nH a a.length else fk a:Nat):Int))),(4001000,.box 44 0 (av .z 2))],6,[]⟩) (λk=>k≤1) (λk=>1-k) 0 (bK _) (wk ⟨sR ae,sR ae,sR ae,sR ae,sR ae,ah⟩ ⟨bE ae ae,bE ae ae,bE ae ae,ah⟩) ?_);intro k hk;refine aj (rr ae ?_);refine ax ae (λh3=>?_) (λh3=>?_)
  ·have h3:(if k=0 then(a.length:Int)-1 else(a.length:Int)-1-4096)>0:=by simpa using h3
   have gV:k=0:=by refine Decidable.by_contra (λe=>?_);rw[aq e]at h3;omega
   subst gV;rw[aw ae]at h3;obtain⟨n,hn⟩:∃n:Nat,a.length=n+1:=⟨a.length-1,by omega⟩;refine aC (ai (aj (aH ?_)));have hmul:=uu ((nH a a.length:Nat):Int) ((2^n:Nat):Int) sk (Sm.of (by have:2^n≤2^12:=jV ak af;rw[pt];exact zy this ak));have IK:aG Tryz.prog 104 [aZ 2,.c (.I .i64 (if(4096:Int)<n then 4096 else n))] (.t [(true,av .z ((2^n:Nat):Int)),(false,[.I .i64 0])]):=by rw[aq af];exact ajR n af
   refine dy (st':=⟨[(0,cS .z a),(2,.c (.P 0 0)),(3,.c (.P 1001000 0)),(6,.c (.P 4001000 0)),(7,cI n)],[(0,.box 44 0 [.B false,.V (.slice none 0 0)]),(1001000,.box 44 0 (av .z ((nH a a.length:Nat):Int))),(4001000,.box 44 0 (av .z 2))],7,[]⟩) (wk ⟨sR ae,sR ae,sR ae,sR ae,sE ae ?_,ah⟩ ⟨bE ae ae,bE ae ae,bE ae ae,ah⟩) ?_
   ·exact ay cI (by rw[aw ae,hn];omega)
   ·refine rb (rc ae ae IK (re ae (cK (rc ae ae hmul (re ae (a6 (ai (rt ae (a8 1 (bD _) ak (wk ⟨sR ae,sR ae,sR ae,sR ae,sE ae ?_,ah⟩ ⟨bE ae ae,bE ae ?_,bE ae ae,ah⟩))))))))))
    ·exact ay cI (by rw[aq ak,hn];omega)
    ·rw[aq ak,fk,hn,iY];rfl
  ·have h3:¬(if k=0 then(a.length:Int)-1 else(a.length:Int)-1-4096)>0:=by simpa using h3
   refine bh (bt (bq (bp (ai (rr ae (aF (aL ar ae (au.of_eq ?_))))))));refine ay (λx:Nat=>aZ (x:Int)) ?_;split
   ·rename_i e;rw[aw e]at h3;rw[fk,show a.length-1=0 by omega,xY,k9]
   ·rfl
end Go.El
namespace Go.El
def sq(f:Nat→Rat):Nat→Rat
 |0=>0
 |k+1=>sq f k+f k
def vS{f g:Nat→Rat}:∀{k:Nat},(∀i,i<k→f i=g i)→sq f k=sq g k
 |0,_=>rfl
 |k+1,h=>by rw[sq,sq,vS (λi hi=>h i af),h k af]
def Nn{f:Nat→Rat}{k:Nat}(h:∀i,i<k→f i=0):sq f k=0:=by
 induction k with
 |zero=>rfl
 |succ k ih=>rw[sq,ih (λi hi=>h i af),h k af,rF]
def T3(f g:Nat→Rat):∀k,sq (λi=>f i+g i) k=sq f k+sq g k
 |0=>(rF 0).symm
 |k+1=>by simp only[sq,T3 f g k];grind
def No(c:Rat)(f:Nat→Rat):∀k,sq (λi=>c*f i) k=c*sq f k
 |0=>by simp only[sq];grind
 |k+1=>by simp only[sq,No c f k];grind
def amS(c:Rat)(f:Nat→Rat)(k:Nat):sq (λi=>f i*c) k=sq f k*c:=by rw[PL,←No];exact vS (λi _=>PL _ _)
def ab'(f:Nat→Rat):∀k,sq f (k+1)=f 0+sq (λi=>f (i+1)) k
 |0=>by simp only[sq];grind
 |k+1=>by rw[sq,ab' f k,sq];grind
def aca(f:Nat→Rat):∀k,sq f k=sq (λi=>f (k-1-i)) k
 |0=>rfl
 |k+1=>by rw[sq,aca f k,ab' (λi=>f (k+1-1-i))];have:sq (λi=>f (k+1-1-(i+1))) k=sq (λi=>f (k-1-i)) k:=vS (λi _=>by congr 1;omega);rw[this,show k+1-1-0=k by omega];grind
def acb(F:Nat→Nat→Rat):∀n,sq (λi=>sq (λj=>F i j) (i+1)) n=sq (λj=>sq (λk=>F (j+k) j) (n-j)) n
 |0=>rfl
 |n+1=>by
  rw[sq,acb F n];have h1:sq (λj=>sq (λk=>F (j+k) j) (n+1-j)) n=sq (λj=>sq (λk=>F (j+k) j) (n-j)+F n j) n:=by refine vS (λj hj=>?_);rw[show n+1-j=(n-j)+1 by omega,sq,show j+(n-j)=n by omega]
  rw[show sq (λj=>sq (λk=>F (j+k) j) (n+1-j)) (n+1)=sq (λj=>sq (λk=>F (j+k) j) (n+1-j)) n+sq (λk=>F (n+k) n) (n+1-n)from ae,h1,T3];rw[show n+1-n=1 by omega,show sq (λj=>F n j) (n+1)=sq (λj=>F n j) n+F n n from ae,show sq (λk=>F (n+k) n) 1=0+F (n+0) n from ae,kg];have e9:sq (λj=>F n j) n=sq (F n) n:=rfl;grind
def Np{f:Nat→Rat}{a:Nat}:∀{n:Nat},a<n→(∀i,i<n→i≠a→f i=0)→sq f n=f a
 |0,h,_=>by omega
 |n+1,h,hz=>by
  rw[sq];by_cases e:a=n
  ·subst e;rw[Nn (λi hi=>hz i af af),PM]
  ·rw[Np (n:=n) af (λi hi=>hz i af),hz n af af,rF]
def cvq(A B:Nat→Rat)(n:Nat):Rat:=sq (λi=>A i*B (n-i)) (n+1)
structure Rx where
 v:Nat→Rat
 fin:∃n,∀i,n≤i→v i=0
namespace Rx
instance:CoeFun Rx (λ_=>Nat→Rat):=⟨λA=>A.v⟩
def ext{A B:Rx}(h:∀i,A i=B i):A=B:=by cases A;cases B;have e:=funext h;simp only at e;subst e;rfl
def ace{A B:Nat→Rat}{m n:Nat}(hA:∀i,m≤i→A i=0)(hB:∀i,n≤i→B i=0):∀i,m+n≤i+1→cvq A B i=0:=λi hi=>Nn λj hj=>by
 by_cases e:m≤j
 ·rw[hA j e,u6]
 ·rw[hB (i-j) af,jA]
instance:Add Rx:=⟨λA B=>⟨λi=>A i+B i,by obtain⟨m,hm⟩:=A.2;obtain⟨n,hn⟩:=B.2;exact⟨m+n,λi hi=>by show A.v i+B.v i=0;rw[hm i af,hn i af,rF]⟩⟩⟩
instance:Mul Rx:=⟨λA B=>⟨cvq A.v B.v,by obtain⟨m,hm⟩:=A.2;obtain⟨n,hn⟩:=B.2;exact⟨m+n,λi hi=>ace hm hn i af⟩⟩⟩
instance:Neg Rx:=⟨λA=>⟨λi=> -A i,by obtain⟨m,hm⟩:=A.2;exact⟨m,λi hi=>by show-A.v i=0;rw[hm i hi,Rat.neg_zero]⟩⟩⟩
def K(c:Rat):Rx:=⟨λi=>if i=0 then c else 0,1,λi hi=>aq af⟩
instance:_root_.Sub Rx:=⟨λx y=>x+ -y⟩
instance:OfNat Rx 0:=⟨⟨λ_=>0,0,λ_ _=>rfl⟩⟩
instance:OfNat Rx 1:=⟨K 1⟩
def fP(A B:Rx)(i:Nat):(A+B) i=A i+B i:=rfl
def L9(A:Rx)(i:Nat):(-A) i= -A i:=rfl
def EU(A B:Rx)(i:Nat):(A-B) i=A i-B i:=(Rat.sub_eq_add_neg _ _).symm
def lZ(i:Nat):(0:Rx) i=0:=rfl
def gW(A B:Rx)(n:Nat):(A*B) n=sq (λi=>A i*B (n-i)) (n+1):=rfl
def tC(c:Rat)(i:Nat):K c i=if i=0 then c else 0:=rfl
def iE(c:Rat)(A:Rx)(i:Nat):(K c*A) i=c*A i:=by rw[gW,Np (a:=0) af (λj _ hj=>by rw[tC,aq hj,u6])];rfl
def add_comm(x y:Rx):x+y=y+x:=ext λi=>Rat.add_comm _ _
def add_assoc(x y z:Rx):x+y+z=x+(y+z):=ext λi=>Rat.add_assoc _ _ _
def mul_comm(A B:Rx):A*B=B*A:=by
 refine ext λn=>?_
 rw[gW,gW,aca];refine vS (λi hi=>?_);rw[PL,show n-(n+1-1-i)=i by omega];rfl
def mul_assoc(A B C:Rx):A*B*C=A*(B*C):=by
 refine ext λn=>?_
 rw[gW,gW];have h1:sq (λi=>(A*B) i*C (n-i)) (n+1)=sq (λi=>sq (λj=>A j*B (i-j)*C (n-i)) (i+1)) (n+1):=vS (λi _=>by rw[gW,amS]);rw[h1,acb (λi j=>A j*B (i-j)*C (n-i))];refine vS (λj hj=>?_);rw[gW,←No,show n+1-j=n-j+1 by omega];refine vS (λk hk=>?_);rw[u4,show j+k-j=k by omega,show n-(j+k)=n-j-k by omega]
def mul_add(A B C:Rx):A*(B+C)=A*B+A*C:=by
 refine ext λn=>?_
 rw[fP,gW,gW,gW,←T3];exact vS (λi _=>by rw[fP,Rat.mul_add])
def add_mul(x y z:Rx):(x+y)*z=x*z+y*z:=by rw[mul_comm,mul_add,mul_comm z x,mul_comm z y]
def zero_add(x:Rx):0+x=x:=ext λi=>PM _
def add_zero(x:Rx):x+0=x:=by rw[add_comm,zero_add]
def one_mul(x:Rx):1*x=x:=ext λi=>(iE 1 x i).trans (zI _)
def mul_one(x:Rx):x*1=x:=by rw[mul_comm,one_mul]
def zero_mul(x:Rx):0*x=0:=ext λn=>by rw[gW];exact Nn λi _=>by rw[lZ,u6]
def mul_zero(x:Rx):x*0=0:=by rw[mul_comm,zero_mul]
def add_neg(x:Rx):x+ -x=0:=ext λi=>Rat.add_neg_cancel _
def neg_add(x:Rx): -x+x=0:=by rw[add_comm,add_neg]
def sub_def(x y:Rx):x-y=x+ -y:=rfl
instance:Std.Associative (α:=Rx) (·+·):=⟨add_assoc⟩
instance:Std.Commutative (α:=Rx) (·+·):=⟨add_comm⟩
instance:Std.Associative (α:=Rx) (·*·):=⟨mul_assoc⟩
instance:Std.Commutative (α:=Rx) (·*·):=⟨mul_comm⟩
def add_left_cancel{x y z:Rx}(h:x+y=x+z):y=z:=by have:=ay (-x+·) h;simpa only[←add_assoc,neg_add,zero_add]using this
def l6(x y:Rx):x-y+y=x:=by rw[sub_def,add_assoc,neg_add,add_zero]
def yK(x y:Rx):x+y-y=x:=by rw[sub_def,add_assoc,add_neg,add_zero]
def Mq{x y z:Rx}(h:x+y=z):x=z-y:=by rw[←h,yK]
def sub_eq{x y z:Rx}(h:x=z+y):x-y=z:=by rw[h,yK]
def sub_self(x:Rx):x-x=0:=add_neg x
def sub_zero(x:Rx):x-0=x:=sub_eq (add_zero x).symm
def EZ{x y:Rx}(h:x-y=0):x=y:=by rw[←l6 x y,h,zero_add]
def sub_mul(x y z:Rx):(x-y)*z=x*z-y*z:=Mq (by rw[←add_mul,l6])
def mul_sub(x y z:Rx):x*(y-z)=x*y-x*z:=by rw[mul_comm,sub_mul,mul_comm y,mul_comm z]
def neg_mul(x y:Rx): -x*y= -(x*y):=add_left_cancel (x:=x*y) (by rw[←add_mul,add_neg,add_neg,zero_mul])
def neg_sub(x y:Rx): -(x-y)=y-x:=add_left_cancel (x:=x-y) (by rw[add_neg,sub_def,sub_def];have:x+ -y+(y+ -x)=(x+ -x)+(-y+y):=kN;rw[this,add_neg,neg_add,add_zero])
def SA(x y z w:Rx):(x+y)-(z+w)=(x-z)+(y-w):=sub_eq (by have:x-z+(y-w)+(z+w)=(x-z+z)+(y-w+w):=kN;rw[this,l6,l6])
instance:Dvd (Rx):=⟨λa b=>∃w,b=w*a⟩
def dvd_refl(a:Rx):a∣a:=⟨1,(one_mul a).symm⟩
def dvd_zero(a:Rx):a∣0:=⟨0,(zero_mul a).symm⟩
def dvd_trans{a b c:Rx}(h:a∣b)(k:b∣c):a∣c:=by obtain⟨w,rfl⟩:=h;obtain⟨v,rfl⟩:=k;exact⟨v*w,(mul_assoc v w a).symm⟩
def dvd_mul_left(a b:Rx):a∣b*a:=⟨b,ae⟩
def dvd_mul_right(a b:Rx):a∣a*b:=⟨b,mul_comm a b⟩
def fl{a b:Rx}(h:a∣b)(c:Rx):a∣c*b:=dvd_trans h (dvd_mul_left b c)
def qU{a b:Rx}(h:a∣b)(c:Rx):a∣b*c:=dvd_trans h (dvd_mul_right b c)
def dvd_add{a b c:Rx}(h:a∣b)(k:a∣c):a∣b+c:=by obtain⟨w,rfl⟩:=h;obtain⟨v,rfl⟩:=k;exact⟨w+v,(add_mul w v a).symm⟩
def dvd_neg{a b:Rx}(h:a∣b):a∣-b:=by obtain⟨w,rfl⟩:=h;exact⟨-w,(neg_mul w a).symm⟩
def dvd_sub{a b c:Rx}(h:a∣b)(k:a∣c):a∣b-c:=dvd_add h (dvd_neg k)
def xk{a b c:Rx}(h:a∣b+c)(k:a∣b):a∣c:=by have:=dvd_sub h k;rwa[add_comm b c,yK]at this
def E3{a b c:Rx}(h:a∣b-c)(k:a∣c):a∣b:=by have:=dvd_add h k;rwa[l6]at this
def nL{a b c:Rx}(h:a∣b-c):a∣c-b:=by rw[←neg_sub];exact dvd_neg h
def pk(a:Rx):Nat→Rx
 |0=>1
 |n+1=>pk a n*a
def Cu(a:Rx):pk a 1=a:=one_mul a
def tn(a:Rx)(m:Nat):∀n,pk a (m+n)=pk a m*pk a n
 |0=>(mul_one _).symm
 |n+1=>by rw[←tO,pk,pk,tn a m n,mul_assoc]
def Cv(a:Rx)(m:Nat):∀n,pk a (m*n)=pk (pk a m) n
 |0=>rfl
 |n+1=>by rw[GK,tn,pk,Cv a m n]
def xm(a b:Rx):∀n,pk (a*b) n=pk a n*pk b n
 |0=>(one_mul 1).symm
 |n+1=>by rw[pk,pk,pk,xm a b n];ac_rfl
def yL:∀n,pk (1:Rx) n=1
 |0=>rfl
 |n+1=>by rw[pk,yL n,one_mul]
def X(k:Nat):Rx:=⟨λi=>if i=k then 1 else 0,k+1,λi hi=>aq af⟩
def I9(k i:Nat):X k i=if i=k then 1 else 0:=rfl
def qP(k:Nat)(A:Rx)(i:Nat):(X k*A) i=if k≤i then A (i-k)else 0:=by
 rw[gW];by_cases h:k≤i
 ·rw[aw h,Np (a:=k) af (λj _ hj=>by rw[I9,aq hj,u6]),I9,aw ae,zI]
 ·rw[aq h];exact Nn (λj hj=>by rw[I9,aq af,u6])
def amT:X 0=1:=rfl
def qQ(a b:Rat):K (a+b)=K a+K b:=ext λi=>by rw[fP,tC,tC,tC];split<;>grind
def gw(a b:Rat):K (a*b)=K a*K b:=ext λi=>by rw[iE,tC,tC];split<;>grind
def mK:K 0=0:=ext λi=>by rw[tC,lZ];split<;>rfl
def l7:K 1=1:=rfl
def AE(a:Rat):K (-a)= -K a:=add_left_cancel (x:=K a) (by rw[←qQ,Rat.add_neg_cancel,mK,add_neg])
def E5(a b:Rat):K (a-b)=K a-K b:=by rw[Rat.sub_eq_add_neg,qQ,AE,sub_def]
def Mt{a b:Rat}(h:K a=K b):a=b:=ay (λA:Rx=>A 0) h
def pT{c:Rat}(h:c≠0):K c⁻¹ *K c=1:=by rw[←gw,oJ c h,l7]
def lx(a:List Rat):Rx:=⟨λi=>a.getD i 0,a.length,λi hi=>by rw[aU,nn hi];rfl⟩
def mR(a:List Rat)(i:Nat):lx a i=a.getD i 0:=rfl
def xC:lx []=0:=ext λi=>rfl
def Nq(c:Rat):lx [c]=K c:=ext λi=>by
 cases i with
 |zero=>rfl
 |succ i=>rfl
def I'(c:Rat)(a:List Rat):lx (c::a)=K c+X 1*lx a:=ext λi=>by
 rw[fP,qP];cases i with
 |zero=>rw[aq af];show c=K c 0+0;rw[tC,aw ae,rF]
 |succ i=>rw[aw af];show a.getD i 0=K c (i+1)+a.getD i 0;rw[tC,aq af,PM]
def cO(a:List Rat):Prop:=a=[]∨a.getD (a.length-1) 0≠0
def Ja:cO []:= .inl ae
def kY(a:List Rat){i:Nat}(h:a.length≤i):a.getD i 0=0:=by rw[aU,nn h];rfl
def cO.top{a:List Rat}(h:cO a){n:Nat}(hn:a.length=n+1):a.getD n 0≠0:=by
 rcases h with h|h
 ·subst h;simp at hn
 ·rwa[hn,iY]at h
def T4{a b:List Rat}(hl:a.length=b.length)(h:∀i,a.getD i 0=b.getD i 0):a=b:=by refine nV hl (λi h1 h2=>?_);have:=h i;rwa[aU,aU,cr h1,cr h2]at this
def Jb{a b:List Rat}(ha:cO a)(hb:cO b)(h:lx a=lx b):a=b:=by
 have hg:∀i,a.getD i 0=b.getD i 0:=λi=>ay (λA:Rx=>A i) h
 refine T4 ?_ hg;rcases GB a.length b.length with e|e|e
 ·exact absurd ((hg (b.length-1)).symm.trans (kY a af)) (hb.top af)
 ·exact e
 ·exact absurd ((hg (a.length-1)).trans (kY b af)) (ha.top af)
def T5(A:Nat→Rat):∀n,(∀i,n≤i→A i=0)→∃a:List Rat,cO a∧a.length≤n∧∀i,a.getD i 0=A i
 |0,h=>⟨[],Ja,bD _,λi=>(h i (bK _)).symm⟩
 |n+1,h=>by
  by_cases e:A n=0
  ·obtain⟨a,h1,h2,h3⟩:=T5 A n (λi hi=>by
    by_cases e2:i=n
    ·rw[e2,e]
    ·exact h i af)
   exact⟨a,h1,by omega,h3⟩
  ·have hg:∀i,((List.range (n+1)).map A).getD i 0=A i:=λi=>by
    rw[aU,kc];by_cases e:i<n+1
    ·rw[oI e];rfl
    ·rw[nn cT];exact(h i af).symm
   refine⟨(List.range (n+1)).map A,.inr ?_,by simp,hg⟩;rw[hg];simpa using e
def kI(A:Rx):∃a,cO a∧lx a=A:=by obtain⟨n,hn⟩:=A.2;obtain⟨a,h1,_,h3⟩:=T5 A.v n hn;exact⟨a,h1,ext h3⟩
open Classical in
noncomputable def sz(A:Rx):Nat:=(Classical.choose (kI A)).length
def dK{a:List Rat}(ha:cO a):sz (lx a)=a.length:=by have h2:=xQ (kI (lx a));rw[sz,Jb h2.1 ha h2.2]
def vT{n:Nat}{A:Rx}(h:∀i,n≤i→A i=0):sz A≤n:=by obtain⟨a,h1,h2,h3⟩:=T5 A.v n h;rw[←(ext h3:lx a=A),dK h1];exact h2
def oq{A:Rx}{i:Nat}(h:sz A≤i):A i=0:=by obtain⟨a,ha,rfl⟩:=kI A;rw[dK ha]at h;exact kY a h
def Jc{A:Rx}{n:Nat}(h:sz A=n+1):A n≠0:=by obtain⟨a,ha,rfl⟩:=kI A;rw[dK ha]at h;exact ha.top h
def amU{A:Rx}{n:Nat}(h:A n≠0):n<sz A:=Nat.lt_of_not_le λe=>h (oq e)
def kJ:sz (0:Rx)=0:=Nat.le_zero.1 (vT λ_ _=>rfl)
def E6(c:Rat):sz (K c)≤1:=vT λi hi=>by rw[tC,aq af]
def SH{A:Rx}(h:sz A=0):A=0:=ext λi=>oq af
def eP{A:Rx}(h:A≠0):0<sz A:=by
 rcases wE (sz A)with e|e
 ·exact absurd (SH e) h
 ·exact e
def SI(A B:Rx):sz (A+B)≤max (sz A) (sz B):=vT λi hi=>by rw[fP,oq (A:=A) af,oq (A:=B) af,rF]
def SJ(A:Rx):sz (-A)≤sz A:=vT λi hi=>by rw[L9,oq hi];rfl
def Iq(A B:Rx):sz (A-B)≤max (sz A) (sz B):=by have h1:=SI A (-B);have h2:=SJ B;rw[sub_def];omega
def yG{A B:Rx}{m n:Nat}(hA:∀i,m<i→A i=0)(hB:∀i,n<i→B i=0):(A*B) (m+n)=A m*B n:=by
 rw[gW,Np (a:=m) af (λj h1 h2=>?_)]
 ·rw[show m+n-m=n by omega]
 ·by_cases e:m<j
  ·rw[hA j e,u6]
  ·rw[hB (m+n-j) af,jA]
def oh:(1:Rx)≠0:=λe=>by have:(1:Rx) 0=(0:Rx) 0:=qh;exact absurd this ak
def eH{A B:Rx}(hA:A≠0)(hB:B≠0):sz (A*B)+1=sz A+sz B:=by
 have pa:=eP hA;have pb:=eP hB;obtain⟨m,hm⟩:∃m,sz A=m+1:=⟨sz A-1,by omega⟩;obtain⟨n,hn⟩:∃n,sz B=n+1:=⟨sz B-1,by omega⟩;have h1:(A*B) (m+n)≠0:=by
  rw[yG (λi hi=>oq af) (λi hi=>oq af)];intro e;rcases DJ.1 e with e|e
  ·exact Jc hm e
  ·exact Jc hn e
 have h2:=amU h1;have h3:sz (A*B)≤m+n+1:=vT λi hi=>ace (A:=A.v) (B:=B.v) (m:=m+1) (n:=n+1) (λj hj=>oq (A:=A) af) (λj hj=>oq (A:=B) af) i af
 omega
def tq{c:Rat}(h:c≠0):K c≠0:=λe=>h (Mt (e.trans mK.symm))
def oX{A B:Rx}(hA:A≠0)(hB:B≠0):A*B≠0:=λe=>by have h:=eH hA hB;rw[e,kJ]at h;have pa:=eP hA;have pb:=eP hB;omega
def yO{A B C:Rx}(hA:A≠0)(h:B*A=C*A):B=C:=by
 refine EZ ?_;refine gE λhn=>?_
 exact oX hn hA (by rw[sub_mul,h,sub_self])
def oY:sz (1:Rx)=1:=by have h1:=E6 1;have h2:=eP oh;rw[l7]at h1;omega
def E7{A:Rx}(h:sz A=1):∃c:Rat,c≠0∧A=K c:=by
 obtain⟨a,ha,rfl⟩:=kI A;rw[dK ha]at h;match a,h,ha with
 |[c],_,ha=>exact⟨c,ha.top (n:=0) ae,Nq c⟩
def xp{A:Rx}(h:sz A=1):∃B:Rx,B*A=1:=by obtain⟨c,hc,rfl⟩:=E7 h;exact⟨_,pT hc⟩
def Cx{A B:Rx}(h:B*A=1):sz A=1:=by
 have hA:A≠0:=λe=>oh (by rw[←h,e,mul_zero])
 have hB:B≠0:=λe=>oh (by rw[←h,e,zero_mul])
 have h1:=eH hB hA;rw[h,oY]at h1;have pa:=eP hA;have pb:=eP hB;omega
def dvd_one{A:Rx}(h:A∣1):sz A=1:=by obtain⟨w,hw⟩:=h;exact Cx hw.symm
def j3{A B:Rx}(h:A∣B)(hB:B≠0):sz A≤sz B:=by
 obtain⟨w,rfl⟩:=h;have hw:w≠0:=λe=>hB Ki
 have hA:A≠0:=λe=>hB (by rw[e,mul_zero])
 have h1:=eH hw hA;have pw:=eP hw;omega
def vK{A B:Rx}(h:A∣B)(br:sz B<sz A):B=0:=
 gE λhn=>by have:=j3 h hn;omega
def acf{B:Rx}(hB:B≠0):∀(n:Nat)(A:Rx),sz A<n→∃Q R,A=Q*B+R∧sz R<sz B
 |0,_,h=>by omega
 |n+1,A,h=>by
  by_cases e:sz A<sz B
  ·exact⟨0,A,by rw[zero_mul,zero_add],e⟩
  ·have pb:=eP hB;obtain⟨k,hk⟩:∃k,sz B=k+1:=⟨sz B-1,by omega⟩;obtain⟨m,hm⟩:∃m,sz A=m+k+1:=⟨sz A-k-1,by omega⟩;have h1:sz (A-K (A (m+k)*(B k)⁻¹)*(X m*B))<n:=by
    have:sz (A-K (A (m+k)*(B k)⁻¹)*(X m*B))≤m+k:=vT λi hi=>by
     rw[EU,iE,qP,aw (show m≤i by omega)];by_cases e2:i=m+k
     ·rw[e2,show m+k-m=k by omega,u4,oJ _ (Jc hk),Bv];grind
     ·rw[oq (A:=A) (i:=i) af,oq (A:=B) (i:=i-m) af];grind
    omega
   obtain⟨Q,R,h2,h3⟩:=acf hB n _ h1;refine⟨K (A (m+k)*(B k)⁻¹)*X m+Q,R,?_,h3⟩;rw[add_mul,add_assoc,←h2,mul_assoc,add_comm,l6]
def SK(A:Rx){B:Rx}(hB:B≠0):∃Q R,A=Q*B+R∧sz R<sz B:=acf hB _ A (fT _)
def AF:∀(n:Nat)(A B:Rx),sz B<n→∃D U V,D∣A∧D∣B∧D=U*A+V*B
 |0,_,_,h=>by omega
 |n+1,A,B,h=>by
  by_cases e:B=0
  ·subst e;exact⟨A,1,0,dvd_refl A,dvd_zero A,by rw[one_mul,mul_zero,add_zero]⟩
  ·obtain⟨Q,R,h1,h2⟩:=SK A e;obtain⟨D,U,V,h3,h4,h5⟩:=AF n B R af;refine⟨D,V,U-V*Q,?_,h3,?_⟩
   ·rw[h1];exact dvd_add (fl h3 Q) h4
   ·rw[h5,h1,mul_add,sub_mul];have:V*(Q*B)+V*R+(U*B-V*Q*B)=(U*B-V*Q*B+V*Q*B)+V*R:=kN;rw[this,l6]
def Co(A B:Rx):Prop:=∃U V,U*A+V*B=1
def Co.dvd{A B C:Rx}(h:Co A B)(k:A∣B*C):A∣C:=by
 obtain⟨U,V,h⟩:=h;have:C=C*U*A+V*(B*C):=by have e1:C*(U*A)+C*(V*B)=C*U*A+V*(B*C):=kN;rw[←e1,←mul_add,h,mul_one]
 rw[this];exact dvd_add (dvd_mul_left A _) (fl k V)
def Co.Mw{A B C:Rx}(h:Co A B)(ka:A∣C)(kb:B∣C):A*B∣C:=by obtain⟨w,rfl⟩:=kb;rw[mul_comm w B]at ka;obtain⟨v,rfl⟩:=h.dvd ka;exact⟨v,by ac_rfl⟩
def cj(Q:Rx):Prop:=2≤sz Q∧∀A B,Q=A*B→sz A=1∨sz B=1
def cj.ne{Q:Rx}(h:cj Q):Q≠0:=λe=>by have:=h.1;rw[e,kJ]at this;omega
def cj.or{Q:Rx}(h:cj Q)(A:Rx):Q∣A∨Co Q A:=by
 obtain⟨D,U,V,h1,h2,h3⟩:=AF _ Q A (fT _);obtain⟨w,hw⟩:=h1;rcases h.2 _ _ hw with e|e
 ·obtain⟨B,hB⟩:=xp e;left;refine dvd_trans ⟨B,?_⟩ h2;rw[hw,←mul_assoc,hB,one_mul]
 ·obtain⟨B,hB⟩:=xp e;right;refine⟨B*U,B*V,?_⟩;rw[←hB,h3,mul_add,mul_assoc,mul_assoc]
def cj.xq{Q:Rx}(h:cj Q):¬Q∣1:=λe=>by have:=dvd_one e;have:=h.1;omega
def cj.r6{Q:Rx}(h:cj Q){A B:Rx}(k:Q∣A*B):Q∣A∨Q∣B:=by
 rcases h.or A with e|e
 ·exact .inl e
 ·exact .inr (e.dvd k)
def AG:∀(n:Nat)(A:Rx),sz A<n→2≤sz A→∃Q,cj Q∧Q∣A
 |0,_,h,_=>by omega
 |n+1,A,h,h2=>by
  by_cases hi:cj A
  ·exact⟨A,hi,dvd_refl A⟩
  ·have:∃B C,A=B*C∧¬(sz B=1∨sz C=1):=gE λhn=>hi ⟨h2,λB C e=>gE λhc=>hn ⟨B,C,e,hc⟩⟩
   obtain⟨B,C,e,hc⟩:=this;have hA:A≠0:=λe=>by rw[e,kJ]at h2;omega
   have hB:B≠0:=λe2=>hA (by rw[e,e2,zero_mul])
   have hC:C≠0:=λe2=>hA (by rw[e,e2,mul_zero])
   have h3:=eH hB hC;rw[←e]at h3;have h4:=eP hB;have h5:=eP hC;obtain⟨Q,hQ,hd⟩:=AG n B af af;exact⟨Q,hQ,by rw[e];exact qU hd C⟩
def AH{A B:Rx}(hA:A≠0)(h:∀Q,cj Q→Q∣A→Q∣B→False):Co A B:=by
 obtain⟨D,U,V,h1,h2,h3⟩:=AF _ A B (fT _);have hD:D≠0:=λe=>by obtain⟨w,hw⟩:=h1;rw[e,mul_zero]at hw;exact hA hw
 have h4:=eP hD;by_cases e:sz D=1
 ·obtain⟨C,hC⟩:=xp e;refine⟨C*U,C*V,?_⟩;rw[←hC,h3,mul_add,mul_assoc,mul_assoc]
 ·obtain⟨Q,hQ,hd⟩:=AG _ D (fT _) af;exact(h Q hQ (dvd_trans hd h1) (dvd_trans hd h2)).elim
end Rx
end Go.El
