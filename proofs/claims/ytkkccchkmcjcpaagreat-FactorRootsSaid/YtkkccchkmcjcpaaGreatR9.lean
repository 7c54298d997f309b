/- Contract: a squarefree polynomial modulo p is split. Own work; no condition. -/
import Derived.Test.YtkkccchkmcjcpaaGreatR8
import Derived.Test.YtkkccchkmcjcpaaGreatR5
import Derived.Test.YtkkccchkmcjcpaaGreatR6
import Derived.Test.YtkkccchkmcjcpaaGreatR7
set_option linter.defProp false
set_option linter.unusedVariables false
set_option linter.unusedSimpArgs false
set_option linter.unnecessarySimpa false
namespace Go.El
open Go Go.Proofs Fx
def Mt(p:Nat)(l:List (List Int)):(lP p l).length=l.length:=dJ _
def aaC{p:Nat}{l:List (List Int)}{i:Nat}(h:i<l.length):(lP p l).getD i ([],0)=(l[i],(p:Int)):=by rw[aY,j3,ct h];rfl
def aln{o:Nat}{E0:TypeId}{r:Nat}{E:TypeId}{T:ET}{f:Nat→List T.den}{conc:List (Nat×aJ)}(ho:ao o conc=none)(hc:L0 conc=true)(hr:r≤900):∀id b,ao id (eX o E0 r E T f)=some b→ao id conc=none:=by
 intro id b h;unfold eX at h;simp only[ao]at h;split at h
 ·rename_i e;rw[←e];exact ho
 ·obtain⟨i,h1,h2,_⟩:=LZ h;rw[h2];exact akf hc af
def SY{A B id:Nat}{l:List (Nat×aJ)}{v:aJ}(h:id≠A)(e:ao id l=some v):ao (mw A B id) l=some v:=by rwa[qM h]
def alo(p n:Nat)(im:Nat→List Int)(r:Nat):kF p n im 0 r=List.replicate n 0:=Ci (by rw[yC,jv]) λc hc=>by rw[yC]at hc;rw[Ay p n im 0 r hc,aq af,aY,mM,aw hc];rfl
abbrev aaD(n:Nat)(cs:List C)(f x:List Int)(p:Nat)(i:Nat):List (Nat×aJ):=(1000,.box 22 0 cs)::(0,.box 101 0 [.S aM f,.I .u64 p])::(3009000,.box 101 0 [.S aM x,.I .u64 p])::gj i 25 aM (λ_=>List.replicate n 0)
def aaE{n:Nat}{cs:List C}{f x:List Int}{p i K:Nat}(eL:∀j∈cA cs,j<K)(h:i≤900)(hK:4000000≤K):eO K (aaD n cs f x p i):=
 .cons af eL (.cons af (λj hj=>by cases hj) (.cons af (λj hj=>by cases hj) (.gj af)))
set_option maxRecDepth 100000 in
set_option maxHeartbeats 8000000 in
def aaF{p:Nat}(H:bI p)(f:List Int)(hf:Mon p f)(h2:2≤f.length)(rS:f.length≤200)(hs:k9 (fx f:Fx p)):aG Tryz.prog 128 [aP f p] (cS PT (lP p (nH H f))):=by
 have iJ:=H.hp.1;have DR:=H.le;have vi:(p:Int)≠0:=af;refine aX Tryz.func128 ae ae ae ae ae ak ?_;refine rr ae (rb (rc ae ae (tZ f p af) (re ae ?_)));refine aj (rr ae (ax ae (λh=>?_) (λh=>aC (ai ?_))))
 ·have h:f.length≤2:=by have h:(f.length:Int)-1<2:=bc h;omega
  rw[show nH H f=[f]from aw h];exact rb (rl PT [(f,(p:Int))] ae ae (re ae (aF (bW (aL ar ae (au.refl _))))))
 have h3:3≤f.length:=by have h:¬(f.length:Int)-1<2:=bC h;omega
 obtain⟨Cn,hKl,hSp⟩:=aaB H hf h3 rS hs;have hi:=SS H hf h3;obtain⟨n,hn⟩:∃n,f.length=n+1:=⟨f.length-1,by omega⟩;have en:(f.length:Int)-1=(n:Int):=af;rw[show nH H f=mK H f (qN H f) (qN H f).length from aq af];have pZ:qN H f=jU p n (kF p n (nG H f) n):=by unfold qN;rw[hn,jx]
 rw[en];obtain⟨m1,m2,m3⟩:=Cf H hf.c hf.ne (pk (X:Fx p) p);have hx:bV p [0,1]:=⟨λi=>by
  match i with
  |0=>exact⟨jH _,by show(0:Int)<(p:Int);omega⟩
  |1=>exact⟨by show(0:Int)≤1;decide,by show(1:Int)<(p:Int);omega⟩
  |i+2=>exact⟨jH _,by show(0:Int)<(p:Int);omega⟩,.inr (by show(1:Int)≠0;decide)⟩
 have Iq:(fx [0,1]:Fx p)=X:=by rw[RZ,LS,mA,zero_add,mul_one]
 have Ic:aG Tryz.prog 182 [aP [0,1] p,cU p,L' f p] (aP (mH H f (pk X p)) p):=by have:=ZM H f [0,1] p rS hf.c hx (by show 2<_;omega) af af;rwa[Iq]at this
 generalize hxx:mH H f (pk (X:Fx p) p)=x at*;refine rb (rl aM [0,1] ae ae (L8 ae ae ae (rc ae ae Ic (re ae ?_))));refine rb (rk 1 ae ae (Zu ar n (hx:=rfl) ae ae ae ak (by show n*24≤_;omega) af (re ae ?_)));refine aj (rb (iR ae ae ah (re ae (aK (bA (α:=Nat) (λi=>⟨[(1,.c (.P 0 0)),(3,cI n),(4,.c (.P 3009000 0)),(5,.c (.L 1000 0 n (some n))),(34,cI n),(35,cI i)],aaD n (oN n i) f x p i,6,[]⟩) (λi=>i≤n) (λi=>n-i) 0 (bK _) ?_ ?_)))))
 ·refine xc (mw 1000 4001000) ⟨sR ae,sR ae,sR ae,sR ae,sR ae,sR ae,ah⟩ ⟨bE ae ?_,bE ae ae,bE ae ae,jS.gj λq hq=>absurd hq af⟩ ae (ES (by(repeat(refine(bH af).trans ?_));exact SJ af)) (aaE (aae (by show 1+0≤1000000*6;decide)) af (by show 4000000≤1000000*6;decide));show aJ.box 22 0 (x4 [.V (.slice none 0 0)] n)=aJ.box 22 0 ((oN n 0).map (n7 (mw 1000 4001000)));rw[aad af,ak1,Sn]
 ·intro i hin;have qO:=akZ n i hin;refine rr ae (aj (ax ae (λh=>?_) (λh=>?_)))
  ·have nJ:i<n:=by have h:(i:Int)<(n:Int):=bc h;omega
   refine aC (ai (aj (aK (rr ae (cG ?_)))));refine rm aM n ae ae ae ae ae ae (lN .u64) ae ?_ ?_ ?_
   ·show _*8≤_;omega
   ·show _*1≤_;omega
   refine iR ae ae ⟨by show(0:Int)≤(i:Int);omega,by show(i:Int)<(n:Int);omega⟩ (EE ar ae ae ae ae ae ?_ (re ae ?_ (ho:=qK gI)))
   ·show 0+((i:Int)).toNat*1<_;rw[qO];omega
   refine a7 (ai (rt ae (hp:=aR) (a8 (i+1) nJ OA (xc (mw (1+i) 8003000) ⟨⟨_,ae,au.of_eq (az (λz=>AV.c (.P z 0)) (qM af).symm)⟩,sR ae,⟨_,ae,au.of_eq (az (λz=>AV.c (.P z 0)) (qM af).symm)⟩,⟨_,ae,au.of_eq (az (λz=>AV.c (.L z 0 n (some n))) (qM af).symm)⟩,sR ae,sR ae,ah⟩ ⟨⟨_,SY af ae,dd.of_eq ?_⟩,⟨_,SY af ae,dd.of_eq ae⟩,⟨_,SY af ae,dd.of_eq ae⟩,jS.gj λq hq=>?_⟩ (qM af) (ES (by(repeat(refine(bH af).trans ?_));exact SJ af)) (aaE (aae (by show 1+(i+1)≤1000000*6;omega)) af (by show 4000000≤1000000*6;decide))))))
   ·show aJ.box 22 0 ((oN n i).set (0+((i:Int)).toNat*1) (.X 8003000))=aJ.box 22 0 ((oN n (i+1)).map (n7 (mw (1+i) 8003000)));rw[←ak2 n i nJ,aac,aad af,bw,eR,kT];show _=aJ.box 22 0 ((oN n i).set i (.X (mw (1+i) 8003000 (1+i))));rw[Mf]
   ·by_cases e:q=i
    ·subst e;rw[Mf];rfl
    ·rw[qM af];(repeat(refine(bH af).trans ?_));exact cr (f:=λ_=>List.replicate n 0) af
  ·have nJ:n=i:=by have h:¬(i:Int)<(n:Int):=bC h;omega
   subst nJ;refine bp (bu (br (bq (ai ?_))));have SC:aG Tryz.prog 125 [aP f p,cU 1] (aP [1] p):=by have:=Ai f 1 p H.pos af af af;rwa[HI ak]at this
   refine rb (rc ae ae SC (re ae ?_));have alq:∀c,nG H f (c+1)=rQ p f (nG H f c) x:=λc=>by rw[←hxx];rfl
   refine aj (rr ae (aK (bA (α:=Nat) (λi=>⟨[(1,.c (.P 0 0)),(3,cI n),(4,.c (.P 3009000 0)),(5,.c (.L 1000 0 n (some n))),(7,.c (.P 7002000 0)),(46,cI n),(47,cI i)],[(0,.box 101 0 [.S aM f,.I .u64 p]),(3009000,.box 101 0 [.S aM x,.I .u64 p]),(7002000,.box 101 0 [.S aM (nG H f i),.I .u64 p])]++eX 1000 22 n 25 aM (kF p n (nG H f) i),9,[]⟩) (λi=>i≤n) (λi=>n-i) 0 (bK _) ?_ ?_)))
   ·refine iy ⟨sR ae,sR ae,sR ae,sR ae,sR ae,sR ae,sR ae,ah⟩ ⟨bE ae ae,bE ae ae,bE ae ae,ah⟩ (az (λz=>some (aJ.box 22 0 z)) (ak0 n)) (λq hq=>?_) af;rw[alo];(repeat(refine(bH af).trans ?_));exact cr (f:=λ_=>List.replicate n 0) af
   intro i hin;obtain⟨q1,q2,q3⟩:=hi i;generalize hI:nG H f=im at*;have uo:(0:Int)≤(i:Int):=af;have asK:(im i).length≤n:=af;refine rr ae (aj (ax ae (λh4=>?_) (λh4=>?_)))
   ·have nJ:i<n:=by have h4:(i:Int)<(n:Int):=bc h4;omega
    have uo:(0:Int)≤(i:Int)∧(i:Int)<(n:Int):=⟨by omega,by omega⟩;refine aC (ai (aj (aK (rr ae (aj (rr ae (aK (bA (α:=Nat) (λj=>⟨[(1,.c (.P 0 0)),(3,cI n),(4,.c (.P 3009000 0)),(5,.c (.L 1000 0 n (some n))),(7,.c (.P 7002000 0)),(46,cI n),(47,cI i),(8,cI i),(52,cI (im i).length),(53,cI j)],[(0,.box 101 0 [.S aM f,.I .u64 p]),(3009000,.box 101 0 [.S aM x,.I .u64 p]),(7002000,.box 101 0 [.S aM (im i),.I .u64 p])]++eX 1000 22 n 25 aM (mJ p n im i j),12,[]⟩) (λj=>j≤(im i).length) (λj=>(im i).length-j) 0 (bK _) ?_ ?_))))))))
    ·refine iy ⟨sR ae,sR ae,sR ae,sR ae,sR ae,sR ae,sR ae,sR ae,sR ae,sR ae,ah⟩ ⟨bR ae,bR ae,bR ae,ah⟩ ae (λq hq=>?_) af;rw[alg];exact cz
    intro j hj;refine rr ae (aj (ax ae (λh5=>?_) (λh5=>?_)))
    ·have m9:j<(im i).length:=by have h5:(j:Int)<((im i).length:Int):=bc h5;omega
     have Aw:j<n:=af;have hbj:(0:Int)≤(j:Int)∧(j:Int)<(n:Int):=⟨by omega,by omega⟩;have SZ:=SU p n im i j j;refine aC (ai (aj (aK (rr ae ?_))));refine cG (iR ae ae hbj (mE ar (c:= .X (1+j)) ae ae (tb Aw) ae (rk 6 ae ae (qI ar (T:=aM) (xs:=mJ p n im i j j) ae cz ae ae af af ?_) (hp:=aR))));refine Bz ar (T:=aM) (id:=1+j) (xs:=mJ p n im i j j) ae cz ae ae ae ((im i).getD j 0) ?_ OB ?_
     ·show some [C.I .u64 ((im i).getD ((j:Int)).toNat 0)]=_;rw[bw];rfl
     refine re ae ?_ (ho:=qK gI);refine a7 (ai (rt ae (hp:=aR) (a8 (j+1) m9 (by show(im i).length-(j+1)<(im i).length-j;omega) (iy ⟨sR ae,sR ae,sR ae,sR ae,sR ae,sR ae,sR ae,sR ae,sR ae,sR ae,ah⟩ ⟨⟨_,(bH af).trans ae,dd.refl _⟩,⟨_,(bH af).trans ae,dd.refl _⟩,⟨_,(bH af).trans ae,dd.refl _⟩,ah⟩ ((bH af).trans ae) (λq hq=>?_) af))));rw[←ali];by_cases e:q=j
     ·subst e;refine Cd.trans (az (λz=>some (aJ.vec 25 aM z)) ?_);rw[bw,Av,alh]
     ·refine(bH af).trans (Eq.trans (cz) (az (λz=>some (aJ.vec 25 aM z)) ?_));rw[Cl _ _ e]
    ·have m9:j=(im i).length:=by have h5:¬(j:Int)<((im i).length:Int):=bC h5;omega
     subst m9;refine bp (bu (br (bq (ai ?_))));have SZ:=SU p n im i (im i).length i;have hPx:(mJ p n im i (im i).length i).getD ((i:Int)).toNat 0=(im i).getD i 0:=by rw[bw,SV nJ nJ,aw ae]
     have lQ:=q1.1 i;have yD:aG Tryz.prog 159 [aP f p,aP (im i) p,aP x p] (aP (rQ p f (im i) x) p):=HL p H.hp H.le f (im i) x af af af hf.c q1 m1 hf.ne;refine rb (iR ae ae uo (mE ar (c:= .X (1+i)) ae ae (tb nJ) ae (iR ae ae uo (mE ar (c:= .X (1+i)) ae ae (tb nJ) ae (rk 1 ae ae (qI ar (T:=aM) (xs:=mJ p n im i (im i).length i) ae cz ae ae af af (yy ar ae cz ae ae ae OB (rk 7 ae ae ?_ (hp:=aR)))))))));refine qI ar (T:=aM) (xs:=mJ p n im i (im i).length i) ae cz ae ae af af ?_;refine Bz ar (T:=aM) (id:=1+i) (xs:=mJ p n im i (im i).length i) ae cz ae ae ae (((im i).getD i 0+(p:Int)-1)%(p:Int)) ?_ OB ?_
     ·show some [C.I .u64 ((IntKind.wrap .u64 (IntKind.wrap .u64 ((mJ p n im i (im i).length i).getD ((i:Int)).toNat 0+(p:Int))-1)).tmod (p:Int))]=_;rw[hPx,wrap_u64 ((im i).getD i 0+(p:Int)) af af,wrap_u64 _ af af,qZ af];rfl
     refine re ae (dv (iy (sl':=[(1,.c (.P 0 0)),(3,cI n),(4,.c (.P 3009000 0)),(5,.c (.L 1000 0 n (some n))),(7,.c (.P 7002000 0)),(46,cI n),(47,cI i)]) (conc:=[(0,.box 101 0 [.S aM f,.I .u64 p]),(3009000,.box 101 0 [.S aM x,.I .u64 p]),(7002000,.box 101 0 [.S aM (im i),.I .u64 p])]) (nx':=14) (gd':=[]) (o:=1000) (E0:=22) (r:=n) (E:=25) (T:=aM) (f:=kF p n im (i+1)) ⟨sR ae,sR ae,sR ae,sR ae,sR ae,sR ae,sR ae,ah⟩ ⟨⟨_,(bH af).trans ae,dd.refl _⟩,⟨_,(bH af).trans ae,dd.refl _⟩,⟨_,(bH af).trans ae,dd.refl _⟩,ah⟩ ((bH af).trans ae) (λq hq=>?_) af) ?_) (ho:=qK gI)
     ·rw[←alj nJ q hq];by_cases e:q=i
      ·subst e;refine Cd.trans (az (λz=>some (aJ.vec 25 aM z)) ?_);rw[bw,Av]
      ·refine(bH af).trans (Eq.trans (cz) (az (λz=>some (aJ.vec 25 aM z)) ?_));rw[Cl _ _ e]
     refine cG (rc ae ae yD (re ae ?_));refine a7 (ai (rt ae (hp:=aR) (a8 (i+1) nJ OA (iy ⟨sR ae,sR ae,sR ae,sR ae,sR ae,sR ae,sR ae,ah⟩ ⟨bR ae,bR ae,bE ae ?_,ah⟩ ae (λq hq=>cz) af))));rw[alq];rfl
   ·have nJ:i=n:=by have h4:¬(i:Int)<(n:Int):=bC h4;omega
    subst nJ;refine bp (bu (br (bq (ai ?_))));have Ij:EH Tryz.prog 183 [.c (.L 1000 0 i (some i)),cU p] (eX 1000 22 i 25 aM (kF p i im i)) (cS (.sl aM) (qN H f)):=by rw[pZ];exact ak7 H (aax H (λc=>(hi c).1.1) i) af af
    generalize qN H f=KL at*;refine rb (rl PT [(f,(p:Int))] ae ae (re ae ?_));refine aj (rb (rcc (conc:=[(0,.box 101 0 [.S aM f,.I .u64 p]),(3009000,.box 101 0 [.S aM x,.I .u64 p]),(7002000,.box 101 0 [.S aM (im i),.I .u64 p])]) (fm:=eX 1000 22 i 25 aM (kF p i im i)) ae ae Ij (aln ae ae af) (re ae ?_)));have sX:∀q,q≤KL.length→(mK H f KL q).length+1≤f.length:=λq hq=>(Mr H Cn q hq).len H hf
    refine aK (bA (α:=Nat) (λq=>⟨[(1,.c (.P 0 0)),(10,cS PT (lP p (mK H f KL q))),(98,cS (.sl aM) KL),(99,cI KL.length),(100,cI q)],[(0,.box 101 0 [.S aM f,.I .u64 p])],12,[]⟩) (λq=>q≤KL.length) (λq=>KL.length-q) 0 (bK _) ck ?_);intro q hq;refine rr ae (aj (ax ae (λh5=>?_) (λh5=>?_)))
    ·have rI:q<KL.length:=by have h5:(q:Int)<(KL.length:Int):=bc h5;omega
     have hI:=Mr H Cn q hq;have xg:=hI.pre H Cn rI;have hln:=sX q hq;obtain⟨v1,v2,_⟩:=Cn.v q rI;have z7:mK H f KL (q+1)=(mK H f KL q).flatMap λg=>tc H g (a6 (KL.getD q [])):=rfl
     generalize mK H f KL q=l at*;have hvq:KL.getD ((q:Int)).toNat []=KL.getD q []:=by rw[bw]
     generalize KL.getD q []=v at*;have alw:aG Tryz.prog 61 [cS aM v,cU p] (aP (a6 v) p):=by have:=RO v p af H.pos af (λi=>(v1 i).1);rwa[YZ v1]at this
     have alx:=Mt p l;refine aC (ai (aj (aK (rr ae (rr ae (aj (rr ae (aK (bA (α:=Nat) (λj=>⟨[(1,.c (.P 0 0)),(98,cS (.sl aM) KL),(99,cI KL.length),(100,cI q),(12,cS aM v),(13,.c (.X 16000000)),(104,cS PT (lP p l)),(105,cI l.length),(106,cI j)],[(16000000,.vec 101 PT (lP p ((l.take j).flatMap λg=>tc H g (a6 v)))),(0,.box 101 0 [.S aM f,.I .u64 p])],17,[]⟩) (λj=>j≤l.length) (λj=>l.length-j) 0 (bK _) ?_ ?_)))))))))
     ·exact s9 16000000 101 PT ⟨.inl (sR ae),.inl (sR ae),.inl (sR ae),.inl (sR ae),.inl ⟨_,ae,au.of_eq (az (cS aM) hvq)⟩,.inr ⟨ae,ae⟩,.inl (sR ae),.inl ⟨_,ae,au.of_eq (az (λz:Nat=>cI (z:Int)) alx)⟩,.inl (sR ae),ah⟩ ⟨bR ae,ah⟩ ae (eO.of ae)
     intro j hj;refine rr ae (aj (ax ae (λh6=>?_) (λh6=>?_)))
     ·have m9:j<l.length:=by have h6:(j:Int)<(l.length:Int):=bc h6;omega
      have hm:l[j]∈l:=mO m9;obtain⟨s1,s2,s3⟩:=Mp H (xg _ hm);have jr:=(xg _ hm).Io;have hg:(lP p l).getD ((j:Int)).toNat ([],0)=(l[j],(p:Int)):=by rw[bw,aaC m9]
      have nW:(lP p ((l.take j).flatMap λg=>tc H g (a6 v))).length≤200*200:=by
       rw[Mt];have h1:=aaz (φ:=λg=>tc H g (a6 v)) (b:=200) (l:=l.take j) λg hg=>by have hg:=OI hg;have:=(Mp H (xg g hg)).2.1;have:=(xg g hg).Io;show(tc H g (a6 v)).length≤200;omega
       have h2:(l.take j).length≤200:=y7;have h3:=dY 200 h2;omega
      have xf:=Mt p (tc H l[j] (a6 v));have aly:aG Tryz.prog 184 [.a (av PT ((lP p l).getD ((j:Int)).toNat ([],0))),aP (a6 v) p] (cS PT (lP p (tc H l[j] (a6 v)))):=by rw[hg];exact s3.fs
      refine aC (ai (aj (aK (rr ae (cG (rc ae ae alw (rc ae ae aly (ra ae ae ae ae ae ae ae ae ae ?_ ?_ (re ae ?_)))))))))
      ·show(_+_+(_+_)/4+192)*32≤_;omega
      ·show(_+_)*2≤_;omega
      refine a7 (ai (rt ae (hp:=aR) (a8 (j+1) m9 VI (Wk.trans (wk (st':=⟨[(1,.c (.P 0 0)),(98,cS (.sl aM) KL),(99,cI KL.length),(100,cI q),(12,cS aM v),(13,.c (.X 19007000)),(104,cS PT (lP p l)),(105,cI l.length),(106,cI ((j+1:Nat):Int))],[(19007000,.vec 101 PT (lP p ((l.take (j+1)).flatMap λg=>tc H g (a6 v)))),(0,.box 101 0 [.S aM f,.I .u64 p])],21,[]⟩) ⟨sR ae,sR ae,sR ae,sR ae,sR ae,sR ae,sR ae,sR ae,sR ae,ah⟩ ⟨bE ae ?_,bE ae ae,ah⟩) (Wk.trans (qq 16000000 19007000 ae ae ae) ck)))));refine az (aJ.vec 101 PT) ?_;rw[wc,ct m9,za,lP,lP,lP,dZ];simp
     ·have m9:j=l.length:=by have h6:¬(j:Int)<(l.length:Int):=bC h6;omega
      subst m9;rw[iV,←z7];exact bp (bu (br (bq (ai (fS 16000000 ae ae ae (rt ae (a7 (ai (rt ae (hp:=aR) (a8 (q+1) rI (by show KL.length-(q+1)<KL.length-q;omega) ck))))))))))
    ·have rI:q=KL.length:=by have h5:¬(q:Int)<(KL.length:Int):=bC h5;omega
     subst rI;exact bp (bu (br (bq (ai (rr ae (aF (aL ar ae (au.refl _))))))))
def fq(p:Nat)(f:List Int):List Int:=(List.range (f.length-1)).map λi=>((((i+1)%p:Nat):Int)*f.getD (i+1) 0)%(p:Int)
def Ir(p:Nat)(f:List Int):(fq p f).length=f.length-1:=by simp[fq]
def S1(p:Nat)(f:List Int){i:Nat}(h:i<f.length-1):(fq p f).getD i 0=((((i+1)%p:Nat):Int)*f.getD (i+1) 0)%(p:Int):=by unfold fq;rw[aY,j3,ot h];rfl
def S2(p:Nat)(f:List Int):(fx (fq p f):Fx p)=bG (fx f):=mk_eq.2 (Cg.of λi=>by
 show(fq p f).getD i 0%(p:Int)=((i:Int)+1)*f.getD (i+1) 0%(p:Int);by_cases h:i<f.length-1
 ·rw[S1 p f h,kS,Gb,mR,kS,←mR];rfl
 ·rw[dz _ (by rw[Ir];omega),dz f af,eo])
def Mu{p:Nat}(hp:0<p)(f:List Int):rp p (fq p f):=λi=>by
 by_cases h:i<f.length-1
 ·rw[S1 p f h];exact⟨gT _ af,il _ af⟩
 ·rw[dz _ (by rw[Ir];omega)];exact⟨jH _,by omega⟩
set_option maxHeartbeats 4000000 in
def aaH{p:Nat}(H:bI p)(f:List Int)(lf:f.length≤200)(hf:rp p f):
  aG Tryz.prog 126 [aP f p] (aP (a6 (fq p f)) p):=by
 refine aX Tryz.func126 ae ae ae ae ae ak ?_
 have h2:=H.hp.1
 have hle:=H.le
 have vi:(p:Int)≠0:=af
 have Mv:=Ir p f
 refine rr ae (rr ae (aj (rr ae ?_)))
 refine aK (bA (α:=Nat) (λj=>⟨[(1,.c (.P 0 0)),(2,.c (.P 1000 0)),(3,.c (.X 3000000)),(4,cI j)],[(3000000,.vec 25 aM ((fq p f).take (j-1))),(0,.box 101 0 [.S aM f,.I .u64 p]),(1000,.box 101 0 [.V (.slice none 0 0),.I .u64 0])],4,[]⟩) (λj=>1≤j∧j-1≤f.length-1) (λj=>f.length-j) 1 ⟨bF _,bK _⟩ ?_ ?_)
 ·exact s9 3000000 25 aM ⟨.inl (sR ae),.inl (sR ae),.inr ⟨ae,ae⟩,.inl (sR ae),ah⟩ ⟨bE ae ae,bE ae ae,ah⟩ ae (eO.of ae)
 rintro j ⟨fh,hj⟩
 have hl:((fq p f).take (j-1)).length=j-1:=cO
 refine aj (rr ae (ax ae (λh=>?_) (λh=>?_)))
 ·have h:j<f.length:=by have h:(j:Int)<(f.length:Int):=bc h;omega
  have gf:=hf j;refine aC (ai (aj (aK (cG ?_))));refine rl aM [_] ae ae (hp:=aR) (ra ae ae ae ae ae ae ae ae ae ?_ ?_ (re ae ?_))
  ·show(_+1+(_+1)/4+192)*8≤_;omega
  ·show(_+1)*1≤_;omega
  refine a7 (ai (rt ae (hp:=aR) (a8 (j+1) ⟨by omega,by show j+1-1≤f.length-1;omega⟩ (by show f.length-(j+1)<f.length-j;omega) (Wk.trans (wk (st':=⟨[(1,.c (.P 0 0)),(2,.c (.P 1000 0)),(3,.c (.X 5016000)),(4,cI ((j+1:Nat):Int))],[(5016000,.vec 25 aM ((fq p f).take (j+1-1))),(0,.box 101 0 [.S aM f,.I .u64 p]),(1000,.box 101 0 [.V (.slice none 0 0),.I .u64 0])],7,[]⟩) ⟨sR ae,sR ae,sR ae,sR ae,ah⟩ ⟨bE ae ?_,bE ae ae,bE ae ae,ah⟩) (Wk.trans (qq 3000000 5016000 ae ae ae) ck)))));refine az (aJ.vec 25 aM) ?_;obtain⟨i,rfl⟩:∃i,j=i+1:=⟨j-1,by omega⟩;rw[jx,jx,px _ i af,S1 p f af,bw];have e1:((i+1:Nat):Int).tmod (p:Int)=(((i+1)%p:Nat):Int):=k7 (i+1) p;have e2:=iq (i+1) (show 0<p by omega);rw[wrap_u64 ((i+1:Nat):Int) af af,e1,Ru _ _ _ ⟨by omega,by omega⟩ gf af]
 ·have h:j-1=f.length-1:=by have h:¬(j:Int)<(f.length:Int):=bC h;omega
  rw[h,lD (show(fq p f).length≤f.length-1 by omega)];exact bp (bu (br (bq (ai (fS 3000000 ae ae ae (rb (rc ae ae (Ep (fq p f) p af) (re ae (aF (aL ar ae (au.refl _)))))))))))
abbrev MT:ET:= .pr (.sl aM) dU
def kH(p:Nat):List (List Int×Int)→Fx p
 |[]=>1
 |x::l=>pk (fx x.1) x.2.toNat*kH p l
def aaI(p:Nat)(x:List Int×Int):∀l,kH p (l++[x])=kH p l*pk (fx x.1) x.2.toNat
 |[]=>by show pk (fx x.1) x.2.toNat*1=1*pk (fx x.1) x.2.toNat;rw[mul_one,one_mul]
 |y::l=>by rw[mQ,kH,kH,aaI p x l,mul_assoc]
def pull(p:Nat)(g:List Int):Nat→List Int→Nat→List Int×Nat
 |0,f,n=>(f,n)
 |k+1,f,n=>if(bM f g p).2=[]then pull p g k (bM f g p).1 (n+1)else(f,n)
def S3{p:Nat}(H:bI p){g:List Int}(hg:Mon p g)(zQ:2≤g.length):∀(k:Nat)(f:List Int)(n:Nat),f.length<k→Mon p f→Mon p (pull p g k f n).1∧(fx f:Fx p)*pk (fx g) n=fx (pull p g k f n).1*pk (fx g) (pull p g k f n).2∧¬(fx g:Fx p)∣fx (pull p g k f n).1∧n≤(pull p g k f n).2∧((fx g:Fx p)∣fx f→n+1≤(pull p g k f n).2∧(pull p g k f n).1.length<f.length)∧(pull p g k f n).1.length≤f.length
 |0,_,_,h,_=>by omega
 |k+1,f,n,h,hf=>by
  rw[pull];split
  ·rename_i e;have hd:=(LX H hf.c hg.c hg.ne).1 e;have he:=As H hf.c hg.c hg.ne hd;have jr:g.length≤f.length:=by have:=kD H hd (hf.m8 H);rwa[de hg.c,de hf.c]at this
   have hq:=LW H hf hg jr;obtain⟨_,_,_,_,_,rI⟩:=k8 H.hp H.le hf.c.1 hg.c hg.ne;have bh:(bM f g p).1.length<f.length:=af;obtain⟨i1,i2,i3,i4,i5,i6⟩:=S3 H hg zQ k (bM f g p).1 (n+1) af hq;refine⟨i1,?_,i3,by omega,λ_=>⟨by omega,by omega⟩,by omega⟩;rw[←i2,he,pk];ac_rfl
  ·rename_i e;have hd:¬(fx g:Fx p)∣fx f:=λh=>e ((LX H hf.c hg.c hg.ne).2 h)
   exact⟨hf,ae,hd,bF _,λh=>absurd h hd,bF _⟩
structure n9(p:Nat)(F0:Fx p)(f:List Int)(m:Nat)(l:List (List Int×Int)):Prop where
 bQ:Mon p f
 prod:F0=pk (fx f) m*kH p l
 gZ:∀x∈l,Mon p x.1∧2≤x.1.length∧cp (fx x.1:Fx p)∧1≤x.2
 nd:∀x∈l,¬(fx x.1:Fx p)∣fx f
 ds:l.Pairwise λx y=>x.1≠y.1
 m1:1≤m
def S4{p:Nat}(H:bI p){Q:Fx p}(h:2≤sz Q):∀m,m+1≤sz (pk Q m)
 |0=>by rw[pk,oK H];exact bF _
 |m+1=>by
  have h0:Q≠0:=λe=>by rw[e,kQ H.pos]at h;omega
  have h1:=eK H (vt H h0 m) h0;have h2:=S4 H h m;rw[pk];omega
def aaJ{p:Nat}(H:bI p):∀{l:List (List Int×Int)},(∀x∈l,Mon p x.1∧2≤x.1.length∧1≤x.2)→kH p l≠0∧l.length+1≤sz (kH p l)∧∀x∈l,x.2+1≤sz (kH p l)
 |[],_=>⟨n6 H,by rw[kH,oK H];exact bF _,λx hx=>by cases hx⟩
 |y::l,h=>by
  obtain⟨h1,h2,h3⟩:=aaJ H (l:=l) λx hx=>h x lC
  obtain⟨m1,m2,m3⟩:=h y be;have hy:(fx y.1:Fx p)≠0:=m1.m8 H;have h4:=S4 H (show 2≤sz (fx y.1:Fx p)by rw[de m1.c];exact m2) y.2.toNat;have h5:=eK H (vt H hy y.2.toNat) h1;have h6:=eN H.pos h1;refine⟨oJ H (vt H hy _) h1,?_,λx hx=>?_⟩
  ·rw[kH,fk];omega
  ·rw[kH];rcases dx.1 hx with rfl|hx
   ·omega
   ·have:=h3 x hx;omega
def n9.bounds{p:Nat}(H:bI p){F0:Fx p}{f:List Int}{m:Nat}{l:List (List Int×Int)}(h:n9 p F0 f m l):l.length+1≤sz F0∧(∀x∈l,x.2+1≤sz F0)∧(2≤f.length→m+1≤sz F0):=by
 obtain⟨h1,h2,h3⟩:=aaJ H (l:=l) λx hx=>⟨(h.gZ x hx).1,(h.gZ x hx).2.1,(h.gZ x hx).2.2.2⟩
 have h4:=eK H (vt H (h.bQ.m8 H) m) h1;have h5:=eN H.pos (vt H (h.bQ.m8 H) m);rw[←h.prod]at h4;refine⟨by omega,λx hx=>by have:=h3 x hx;omega,λh6=>?_⟩;have h7:=S4 H (show 2≤sz (fx f:Fx p)by rw[de h.bQ.c];exact h6) m;omega
def n9.start{p:Nat}{f:List Int}(hf:Mon p f):n9 p (fx f) f 1 [] where
 bQ:=hf
 prod:=by rw[B3,kH,mul_one]
 gZ:=λx hx=>by cases hx
 nd:=λx hx=>by cases hx
 ds:=List.Pairwise.nil
 m1:=bF _
def ij(p n:Nat):Nat:=(n+p-1)/p
def S5{p:Nat}(H:bI p){f:List Int}(hf:Mon p f)(h2:2≤f.length)(hd:bG (fx f:Fx p)=0):Mon p (jL p f (ij p f.length))∧(fx f:Fx p)=pk (fx (jL p f (ij p f.length))) p∧2≤(jL p f (ij p f.length)).length∧(jL p f (ij p f.length)).length<f.length:=by
 have iJ:=H.hp.1;have hlen:(jL p f (ij p f.length)).length=ij p f.length:=by simp[jL]
 have fX:f.length≤ij p f.length*p:=by unfold ij;have:=xD (f.length+p-1) p;have:=iq (f.length+p-1) (show 0<p by omega);rw[g9];omega
 have Iq:=Fx.pth H hd fX;have yf:(f.length-1)%p=0:=gn λhn=>by
  have h0:=mk_eq.1 (hd:mk (rP (ps f)) (yx (aW.ps p f))=mk 0 (aW.zero p));have h1:=h0.at (f.length-2);rw[PS.lR,df]at h1;have h3:((f.length-2:Nat):Int)+1=((f.length-1:Nat):Int):=af;have h4:rP (ps f) (f.length-2)=((f.length-1:Nat):Int)*1:=by show(((f.length-2:Nat):Int)+1)*f.getD (f.length-2+1) 0=_;rw[h3,show f.length-2+1=f.length-1 by omega,hf.one]
  rw[h4,nm]at h1;omega
 obtain⟨t,ht⟩:∃t,f.length-1=t*p:=⟨(f.length-1)/p,by have:=xD (f.length-1) p;rw[g9];omega⟩;have hkt:ij p f.length=t+1:=by unfold ij;rw[show f.length+p-1=t*p+p by omega,show t*p+p=(t+1)*p by rw[fP,iZ]];exact V6 _ af
 have Ei:1≤t:=by
  rcases wb t with e|e
  ·subst e;omega
  ·exact e
 have htp:t*2≤t*p:=lE t iJ;have mV:∀i,(jL p f (ij p f.length)).getD i 0=if i<ij p f.length then f.getD (i*p) 0 else 0:=λi=>by
  by_cases hi:i<ij p f.length
  ·rw[aw hi];exact Md _ hi
  ·rw[aq hi,dz _ af]
 have iK:(jL p f (ij p f.length)).getD ((jL p f (ij p f.length)).length-1) 0=1:=by rw[hlen,mV,aw af,hkt,jx,←ht,hf.one]
 refine⟨⟨⟨λi=>?_,.inr (by rw[iK];decide)⟩,λe=>by rw[e]at hlen;simp at hlen;omega,iK⟩,Iq,by omega,by omega⟩;rw[mV];split
 ·exact hf.c.1 _
 ·exact⟨jH _,H.pos⟩
def n9.root{p:Nat}(H:bI p){F0:Fx p}{f:List Int}{m:Nat}{l:List (List Int×Int)}(h:n9 p F0 f m l)(h2:2≤f.length)(hd:bG (fx f:Fx p)=0):n9 p F0 (jL p f (ij p f.length)) (m*p) l:=by
 obtain⟨e1,e2,e3,e4⟩:=S5 H h.bQ h2 hd;refine⟨e1,?_,h.gZ,λx hx kg=>h.nd x hx ?_,h.ds,?_⟩
 ·rw[h.prod,g9,B4,←e2]
 ·rw[e2];obtain⟨q,hq⟩:∃q,p=q+1:=⟨p-1,by have:=H.hp.1;omega⟩;have:(fx (jL p f (ij p f.length)):Fx p)∣pk (fx (jL p f (ij p f.length))) p:=by
   have e:pk (fx (jL p f (ij p f.length)):Fx p) p=pk (fx (jL p f (ij p f.length))) (q+1):=by rw[←hq]
   rw[e];exact dvd_mul_left _ _
  exact dvd_trans kg this
 ·have:=H.hp.1;have:=h.m1;exact zj af af
structure EX(p:Nat)(f:List Int)(rs:List (List Int)):Prop where
 ok:∀g∈rs,Mon p g∧2≤g.length∧cp (fx g:Fx p)∧(fx g:Fx p)∣fx f
 ds:rs.Pairwise λx y=>x≠y
def alA{p:Nat}(H:bI p){a b:List Int}(ha:Mon p a)(hb:Mon p b)(hi:cp (fx b:Fx p))(wF:2≤a.length)(h:(fx a:Fx p)∣fx b):a=b:=by
 obtain⟨w,hw⟩:=h;have sy:sz (fx a:Fx p)≠1:=by rw[de ha.c];omega
 rcases hi.2 _ _ hw with e|e
 ·obtain⟨c,hc,rfl⟩:=EA H e;have h1:=eK H (ug H hc) (ha.m8 H);rw[←hw,de hb.c,de ha.c,uh H hc]at h1;have hl:b.length=a.length:=af;have h2:(ps b) (a.length-1)%(p:Int)=(PS.K c*ps a) (a.length-1)%(p:Int):=(mk_eq.1 (show(mk (ps b) (aW.ps p b):Fx p)=mk (PS.K c*ps a) ((aW.K p c).mul (aW.ps p a))from hw)).at _;rw[PS.gA,dS,dS,ha.one,←hl,hb.one,nm]at h2;have e3:(K c:Fx p)=1:=by rw[←mD];exact uf h2.symm
  rw[e3,one_mul]at hw;exact(w9 hb.c ha.c hw).symm
 ·exact absurd e sy
def aaK{p:Nat}(H:bI p){Q A:Fx p}(hQ:cp Q):∀n,Q∣pk A n→Q∣A
 |0,h=>absurd h (hQ.xb H)
 |n+1,h=>by
  rcases hQ.rO H (show Q∣pk A n*A from h)with e|e
  ·exact aaK H hQ n e
  ·exact e
def n9.pull{p:Nat}(H:bI p){F0:Fx p}{f:List Int}{m:Nat}{l:List (List Int×Int)}(h:n9 p F0 f m l){g:List Int}{rs:List (List Int)}(hr:EX p f (g::rs)):
  n9 p F0 (pull p g (f.length+1) f 0).1 m (l++[(g,(((pull p g (f.length+1) f 0).2:Nat):Int)*(m:Int))])∧EX p (pull p g (f.length+1) f 0).1 rs∧(pull p g (f.length+1) f 0).1.length<f.length:=by
 obtain⟨g1,g2,g3,g4⟩:=hr.ok g be
 obtain⟨q1,q2,q3,q4,q5,q6⟩:=S3 H g1 g2 (f.length+1) f 0 (fN _) h.bQ
 obtain⟨q7,q8⟩:=q5 g4
 generalize Go.El.pull p g (f.length+1) f 0=x at*
 obtain⟨f',n⟩:=x
 simp only at q1 q2 q3 q4 q5 q6 q7 q8⊢
 rw[pk,mul_one]at q2
 obtain⟨d1,d2⟩:=jZ.1 hr.ds
 have Kx:(fx f':Fx p)∣fx f:=by rw[q2];exact dvd_mul_right _ _
 refine⟨⟨q1,?_,?_,?_,?_,h.m1⟩,⟨λk hk=>?_,d2⟩,q8⟩
 ·rw[h.prod,q2,aaI,wY];have e:((n:Int)*(m:Int)).toNat=n*m:=by rw[←gq,bw]
  simp only[e,B4];ac_rfl
 ·intro x hx;rcases bX.1 hx with hx|hx
  ·exact h.gZ x hx
  ·have e:=jw.1 hx;subst e;refine⟨g1,g2,g3,?_⟩;have:=zj (show 0<n by omega) (show 0<m from h.m1);show(1:Int)≤(n:Int)*(m:Int);rw[←gq];omega
 ·intro x hx;rcases bX.1 hx with hx|hx
  ·exact λhd=>h.nd x hx (dvd_trans hd Kx)
  ·have e:=jw.1 hx;subst e;exact q3
 ·refine AZ.2 ⟨h.ds,OH _ _,λx hx y hy e=>?_⟩;have e2:=jw.1 hy;subst e2;exact h.nd x hx (by rw[e];exact g4)
 ·obtain⟨k1,k2,k3,k4⟩:=hr.ok k (by simp[hk]);refine⟨k1,k2,k3,?_⟩;rw[q2]at k4;rcases k3.rO H k4 with e|e
  ·exact e
  ·exact absurd (alA H k1 g1 g3 k2 (aaK H k3 n e)).symm (d1 k hk)
def jc(p:Nat)(f:List Int):List Int:=(bM f (gh p f (a6 (fq p f))) p).1
def alB{p:Nat}(H:bI p){f:List Int}(hf:Mon p f)(h2:2≤f.length)(hd:a6 (fq p f)≠[]):Mon p (jc p f)∧2≤(jc p f).length∧(jc p f).length≤f.length∧k9 (fx (jc p f):Fx p)∧(fx (jc p f):Fx p)∣fx f∧EX p f (nH H (jc p f)|>.filter λ_=>true)∨200<f.length:=by
 by_cases rS:f.length≤200
 ·left;have qL:bV p (a6 (fq p f)):=nC H.pos (Mu xw f);have Bh:(fx (a6 (fq p f)):Fx p)=bG (fx f):=by rw[wZ,S2]
  obtain⟨m1,m2,m3,U,V,m4⟩:=ED H hf.c qL hf.ne;have vd:(fx (a6 (fq p f)):Fx p)≠0:=λe=>by rw[←n5]at e;exact hd (w9 qL (vo H.pos) e)
  have jr:(gh p f (a6 (fq p f))).length≤f.length-1:=by have h1:=kD H m3 vd;have h2:=HU H (fx f:Fx p);rw[←Bh,de hf.c]at h2;rw[de m1.c]at h1;omega
  have hq:=LW H hf m1 af;have he:=As H hf.c m1.c m1.ne m2;obtain⟨_,_,_,_,_,rI⟩:=k8 H.hp H.le hf.c.1 m1.c m1.ne;have pg:=m1.pos;have qG:k9 (fx (jc p f):Fx p):=Zp H (hf.m8 H) he (by rw[←Bh];exact m4);have hwf:(fx (jc p f):Fx p)∣fx f:=by rw[he];exact dvd_mul_right _ _
  have hlen:(jc p f).length=f.length-((gh p f (a6 (fq p f))).length-1):=rI;have hS:=SX H hq (by show 2≤(jc p f).length;omega) (by show(jc p f).length≤200;omega) qG;have hS:Ms p (jc p f) (nH H (jc p f)):=hS;refine⟨hq,by omega,by omega,qG,hwf,?_⟩;rw[List.filter_eq_self.2 λ_ _=>rfl];refine⟨λg hg=>?_,?_⟩
  ·obtain⟨g1,g2,g3⟩:=hS.parts g hg;exact⟨g1,g2,g3,dvd_trans (by rw[←hS.prod];exact EK p hg) hwf⟩
  ·have key:∀l:List (List Int),(∀g∈l,cp (fx g:Fx p))→jT p l∣fx (jc p f)→l.Pairwise λx y=>x≠y:=by
    intro l;induction l with
    |nil=>intro _ _;exact List.Pairwise.nil
    |cons g l ih=>
     intro hi kg
     refine jZ.2 ⟨λk hk e=>?_,ih (λx hx=>hi x lC) (dvd_trans (dvd_mul_left _ _) kg)⟩
     subst e
     exact qG _ (hi g be) (dvd_trans (Aq (dvd_refl _) (EK p hk)) kg)
   exact key _ (λg hg=>(hS.parts g hg).2.2) (by rw[hS.prod];exact dvd_refl _)
 ·right;omega
noncomputable def oA(p:Nat)(m:Nat):List (List Int)→List Int×List (List Int×Int)→List Int×List (List Int×Int)
 |[],x=>x
 |g::rs,x=>oA p m rs ((pull p g (x.1.length+1) x.1 0).1,x.2++[(g,(((pull p g (x.1.length+1) x.1 0).2:Nat):Int)*(m:Int))])
def S6{p:Nat}(H:bI p){F0:Fx p}{m:Nat}:∀(rs:List (List Int))(f:List Int)(l:List (List Int×Int)),n9 p F0 f m l→EX p f rs→n9 p F0 (oA p m rs (f,l)).1 m (oA p m rs (f,l)).2∧(oA p m rs (f,l)).1.length≤f.length∧(rs≠[]→(oA p m rs (f,l)).1.length<f.length)
 |[],_,_,h,_=>⟨h,bF _,λe=>absurd ae e⟩
 |g::rs,f,l,h,hr=>by obtain⟨i1,i2,i3⟩:=h.pull H hr;obtain⟨j1,j2,_⟩:=S6 H rs _ _ i1 i2;rw[oA];exact⟨j1,by simp only at j2⊢;omega,λ_=>by simp only at j2⊢;omega⟩
noncomputable def qP{p:Nat}(H:bI p):Nat→List Int→Nat→List (List Int×Int)→List (List Int×Int)
 |0,_,_,l=>l
 |k+1,f,m,l=>if f.length≤1 then l else if a6 (fq p f)=[]then qP H k (jL p f (ij p f.length)) (m*p) l else qP H k (oA p m (nH H (jc p f)) (f,l)).1 m (oA p m (nH H (jc p f)) (f,l)).2
def aaM{p:Nat}(H:bI p){f:List Int}(hf:Mon p f)(h2:2≤f.length)(rS:f.length≤200)(hd:a6 (fq p f)≠[]):Mon p (jc p f)∧2≤(jc p f).length∧(jc p f).length≤f.length∧k9 (fx (jc p f):Fx p)∧(fx (jc p f):Fx p)∣fx f∧EX p f (nH H (jc p f))∧nH H (jc p f)≠[]∧(nH H (jc p f)).length≤200:=by
 rcases alB H hf h2 hd with h|h
 ·obtain⟨h1,h3,h4,h5,h6,h7⟩:=h;rw[List.filter_eq_self.2 λ_ _=>rfl]at h7;have hS:=SX H h1 h3 af h5;refine⟨h1,h3,h4,h5,h6,h7,λe=>?_,?_⟩
  ·have:=hS.prod;rw[e,jT]at this;have h8:sz (fx (jc p f):Fx p)=1:=by rw[←this,oK H]
   rw[de h1.c]at h8;omega
  ·obtain⟨_,h9⟩:=SW H (l:=nH H (jc p f)) λg hg=>⟨(hS.parts g hg).1,(hS.parts g hg).2.1⟩
   rw[hS.prod,de h1.c]at h9;omega
 ·omega
def Mw{p:Nat}(H:bI p){f:List Int}(h:a6 (fq p f)=[]):bG (fx f:Fx p)=0:=by rw[←S2,←wZ,h,n5]
def S7{p:Nat}(H:bI p){F0:Fx p}:∀(k:Nat)(f:List Int)(m:Nat)(l:List (List Int×Int)),f.length≤k→f.length≤200→n9 p F0 f m l→∃f' m',f'.length≤1∧n9 p F0 f' m' (qP H k f m l)
 |0,f,m,l,hk,_,h=>⟨f,m,by omega,h⟩
 |k+1,f,m,l,hk,rS,h=>by
  rw[qP];by_cases h1:f.length≤1
  ·rw[aw h1];exact⟨f,m,h1,h⟩
  ·rw[aq h1];by_cases hd:a6 (fq p f)=[]
   ·rw[aw hd];have e:=S5 H h.bQ af (Mw H hd);exact S7 H k _ _ l af af (h.root H af (Mw H hd))
   ·rw[aq hd];obtain⟨_,_,_,_,_,s6,s7,_⟩:=aaM H h.bQ af rS hd;obtain⟨p1,p2,p3⟩:=S6 H _ f l h s6;have:=p3 s7;exact S7 H k _ m _ af af p1
structure yE(p:Nat)(F:Fx p)(l:List (List Int×Int)):Prop where
 parts:∀x∈l,Mon p x.1∧2≤x.1.length∧cp (fx x.1:Fx p)∧1≤x.2
 ds:l.Pairwise λx y=>x.1≠y.1
 prod:kH p l=F
def alC{p:Nat}(H:bI p){f:List Int}(hf:Mon p f)(rS:f.length≤200):yE p (fx f) (qP H f.length f 1 []):=by
 obtain⟨f',m',h1,h⟩:=S7 H f.length f 1 [] (bF _) rS (n9.start hf);refine⟨h.gZ,h.ds,?_⟩;have hl:=h.bQ.pos;have e1:(fx f':Fx p)=1:=by
  rw[←LS];congr 1;have h3:=h.bQ.one;match f',h1,hl,h3 with
  |[c],_,_,h3=>rw[show c=1 from h3]
 rw[h.prod,e1,yu,one_mul]
def aaN{p n k:Nat}(hp:0<p):k*p<n↔k<ij p n:=by
 unfold ij;have h1:=xD (n+p-1) p;have h2:=iq (n+p-1) hp;rw[g9]at h1;constructor
 ·intro h;refine gn λhn=>?_
  have:=dY p (show(n+p-1)/p≤k by omega);omega
 ·intro h;have:=dY p (show k+1≤(n+p-1)/p by omega);rw[fP,iZ]at this;omega
def alD(p:Nat)(f:List Int)(k:Nat):jL p f k++[f.getD (k*p) 0]=jL p f (k+1):=by unfold jL;rw[pW,dZ];rfl
def aaO(p:Nat)(f:List Int)(k:Nat):(jL p f k).length=k:=by simp[jL]
set_option maxRecDepth 100000 in
set_option maxHeartbeats 8000000 in
def alE{p:Nat}(H:bI p)(f0:List Int)(ig:Mon p f0)(rS:f0.length≤200):mY Tryz.prog 63 [aP f0 p] 33 MT (qP H f0.length f0 1 []):=by
 have iJ:=H.hp.1;have DR:=H.le;have vi:(p:Int)≠0:=af;have cR:sz (fx f0:Fx p)=f0.length:=de ig.c;refine zS Tryz.func63 ae ae ae ae ak ?_;refine rr ae (rr ae (rr ae ?_));refine aj (aK (bA (α:=Nat×List Int×Nat×List (List Int×Int)) (λx=>⟨[(1,.c (.P 0 0)),(3,.c (.X 3000000)),(4,cI x.2.2.1)],[(3000000,.vec 33 MT x.2.2.2),(0,.box 101 0 [.S aM x.2.1,.I .u64 p])],4,[]⟩) (λx=>qP H x.1 x.2.1 x.2.2.1 x.2.2.2=qP H f0.length f0 1 []∧x.2.1.length≤x.1∧x.2.1.length≤200∧n9 p (fx f0) x.2.1 x.2.2.1 x.2.2.2) (λx=>x.2.1.length) (f0.length,f0,1,[]) ⟨ae,bF _,rS,n9.start ig⟩ ?_ ?_))
 ·exact s9 3000000 33 MT ⟨.inl (sR ae),.inr ⟨ae,ae⟩,.inl (sR ae),ah⟩ ⟨bE ae ae,ah⟩ ae (eO.of ae)
 rintro⟨k,f,m,l⟩ ⟨hL,hk,nW,hI⟩;simp only at hL hk nW hI;obtain⟨bl,bx,bm⟩:=hI.bounds H;have Hu:=hI.m1;have hfp:=hI.bQ.pos;refine aj (rb (rc ae ae (tZ f p af) (re ae (ax ae (λh=>?_) (λh=>?_)))))
 ·have h:2≤f.length:=by have h:(f.length:Int)-1>0:=bc h;omega
  obtain⟨k,rfl⟩:∃q,k=q+1:=⟨k-1,by omega⟩;have alF:=aaH H f nW hI.bQ.c.1;rw[qP,aq af]at hL;have bm:=bm h;refine aC (ai (aK (rb (rc ae ae alF (re ae ?_)))));refine aj (rr ae (ax ae (λh1=>?_) (λh1=>aC (ai ?_))))
  ·have h1:a6 (fq p f)=[]:=by have h1:(((a6 (fq p f)).length:Nat):Int)=0:=eq_of_beq h1;exact ik af
   rw[aw h1]at hL;have hR:=hI.root H h (Mw H h1);obtain⟨e1,e2,e3,e4⟩:=S5 H hI.bQ h (Mw H h1);have bRz:=(hR.bounds H).2.2 e3;refine rr ae (aj (rr ae (aK (bA (α:=Nat) (λq=>⟨[(1,.c (.P 0 0)),(3,.c (.X 3000000)),(4,cI m),(6,.c (.X 9000000)),(7,cI ((q*p:Nat):Int))],[(9000000,.vec 25 aM (jL p f q)),(3000000,.vec 33 MT l),(0,.box 101 0 [.S aM f,.I .u64 p])],10,[]⟩) (λq=>q≤ij p f.length) (λq=>ij p f.length-q) 0 (bK _) ?_ ?_))))
   ·exact s9 9000000 25 aM ⟨.inl (sR ae),.inl (sR ae),.inl (sR ae),.inr ⟨ae,ae⟩,.inl ⟨_,ae,au.of_eq (az (λz:Nat=>cI (z:Int)) (A5 p).symm)⟩,ah⟩ ⟨bR ae,bR ae,ah⟩ ae (eO.of ae)
   intro q hq;have Mx:=aaO p f q;have hek:=aaO p f (ij p f.length);generalize hz:q*p=z at*;refine aj (rr ae (ax ae (λh5=>?_) (λh5=>?_)))
   ·have h5:z<f.length:=by have h5:(z:Int)<(f.length:Int):=bc h5;omega
    have yF:=(aaN (show 0<p by omega)).1 (show q*p<f.length by omega);refine aC (ai (aj (aK (cG ?_))));refine rl aM [_] ae ae (hp:=aR) (ra ae ae ae ae ae ae ae ae ae ?_ ?_ (re ae ?_))
    ·show(_+1+(_+1)/4+192)*8≤_;omega
    ·show(_+1)*1≤_;omega
    refine a7 (ai (rt ae (a8 (q+1) yF (by show ij p f.length-(q+1)<ij p f.length-q;omega) (Wk.trans (wk (st':=⟨[(1,.c (.P 0 0)),(3,.c (.X 3000000)),(4,cI m),(6,.c (.X 11007000)),(7,cI (((q+1)*p:Nat):Int))],[(11007000,.vec 25 aM (jL p f (q+1))),(3000000,.vec 33 MT l),(0,.box 101 0 [.S aM f,.I .u64 p])],13,[]⟩) ⟨sR ae,sR ae,sR ae,sR ae,sE ae ?_,ah⟩ ⟨bE ae ?_,bE ae ae,bE ae ae,ah⟩) (Wk.trans (qq 9000000 11007000 ae ae ae) ck))) (hp:=?_)))
    ·refine az cI ?_;rw[fP,hz,iZ,ze]
    ·refine az (aJ.vec 25 aM) ?_;rw[←alD,bw,hz]
    ·simp only[Pr.an,Pr.h,num,aA,true_and,and_true];omega
   ·have yF:q=ij p f.length:=by
     have h5:¬(z:Int)<(f.length:Int):=bC h5;have:=λbh=>(aaN (n:=f.length) (k:=q) (show 0<p by omega)).2 bh
     rcases wj q (ij p f.length)with e|e
     ·have:=this e;omega
     ·omega
    subst yF;have hmp:(m:Int)*(p:Int)=((m*p:Nat):Int):=(gq m p).symm;refine bp (bu (br (bq (ai (fS 9000000 ae ae ae (rr ae (rr ae (hp:=?_) (bp (bu (bq (a8 (k,jL p f (ij p f.length),m*p,l) ⟨hL,by show(jL p f (ij p f.length)).length≤k;omega,by show(jL p f (ij p f.length)).length≤200;omega,hR⟩ (by show(jL p f (ij p f.length)).length<f.length;omega) (wk ⟨sR ae,sR ae,sE ae ?_,ah⟩ ⟨bR ae,bR ae,ah⟩))))))))))))
    ·exact az cI hmp
    ·simp only[Pr.an,Pr.h,num,aA,true_and,and_true];rw[hmp];omega
  ·have h1:a6 (fq p f)≠[]:=by intro e;have h1:(((a6 (fq p f)).length:Nat):Int)≠0:=kN h1;rw[e]at h1;exact h1 ae
   rw[aq h1]at hL;obtain⟨w1,w2,w3,w4,w5,w6,w7,w8⟩:=aaM H hI.bQ h nW h1;obtain⟨z1,z2,z3⟩:=S6 H (nH H (jc p f)) f l hI w6;have z3:=z3 w7;have qL:bV p (a6 (fq p f)):=nC H.pos (Mu af f);have Mv:(a6 (fq p f)).length≤f.length:=by have:=vp (fq p f);rw[Ir]at this;omega
   obtain⟨m1,m2,m3,_⟩:=ED H hI.bQ.c qL hI.bQ.ne;have jr:(gh p f (a6 (fq p f))).length≤f.length:=by have:=kD H m2 (hI.bQ.m8 H);rwa[de m1.c,de hI.bQ.c]at this
   have SA:=LK p H.hp H.le f (a6 (fq p f)) af af hI.bQ.c qL hI.bQ.ne;have hdiv:=yq p H.hp H.le f (gh p f (a6 (fq p f))) af af hI.bQ.c.1 m1.c hI.bQ.ne m1.ne;have alG:=aaF H (jc p f) w1 w2 af w4;have hSl:(lP p (nH H (jc p f))).length=(nH H (jc p f)).length:=Mt p _;generalize nH H (jc p f)=Ls at*;refine rb (rc ae ae SA (rc ae ae hdiv (re ae ?_)));refine rb (rc ae ae alG (re ae ?_));refine aK (bA (α:=Nat×List Int×List (List Int×Int)) (λx=>⟨[(1,.c (.P 0 0)),(3,.c (.X 3000000)),(4,cI m),(60,cS PT (lP p Ls)),(61,cI Ls.length),(62,cI x.1)],[(3000000,.vec 33 MT x.2.2),(0,.box 101 0 [.S aM x.2.1,.I .u64 p])],9,[]⟩) (λx=>x.1≤Ls.length∧oA p m (Ls.drop x.1) x.2=oA p m Ls (f,l)∧n9 p (fx f0) x.2.1 m x.2.2∧EX p x.2.1 (Ls.drop x.1)∧x.2.1.length≤200) (λx=>Ls.length-x.1) (0,f,l) ⟨bK _,ae,hI,w6,nW⟩ ?_ ?_)
   ·refine(wk ⟨sR ae,sR ae,sR ae,sR ae,sE ae ?_,sR ae,ah⟩ ⟨bR ae,bR ae,ah⟩);exact az (λz:Nat=>cI (z:Int)) hSl
   rintro⟨j,f1,l1⟩ ⟨hj,hP,te,My,D4⟩;simp only at hj hP te My D4;obtain⟨cl,cx,_⟩:=te.bounds H;have asP:=te.bQ.pos;refine rr ae (aj (ax ae (λh5=>?_) (λh5=>?_)))
   ·have m9:j<Ls.length:=by have h5:(j:Int)<(Ls.length:Int):=bc h5;omega
    have xR:Ls.drop j=Ls[j]::Ls.drop (j+1):=pR m9;have hgj:(lP p Ls).getD ((j:Int)).toNat ([],0)=(Ls[j],(p:Int)):=by rw[bw,aaC m9]
    rw[xR]at hP My;generalize Ls[j]=g at*;obtain⟨g1,g2,g3,g4⟩:=My.ok g be;have asQ:g.length≤f1.length:=by have:=kD H g4 (te.bQ.m8 H);rwa[de g1.c,de te.bQ.c]at this
    obtain⟨r1,r2,r3⟩:=te.pull H My;have cx2:=(r1.bounds H).2.1 (g,(((pull p g (f1.length+1) f1 0).2:Nat):Int)*(m:Int)) be;obtain⟨_,_,_,_,r5,_⟩:=S3 H g1 g2 (f1.length+1) f1 0 (fN _) te.bQ;rw[oA]at hP;have alH:aG Tryz.prog 127 [aP f1 p,.a (av PT ((lP p Ls).getD ((j:Int)).toNat ([],0)))] (.t [(true,[.S aM (bM f1 g p).1,.I .u64 p]),(true,[.S aM (bM f1 g p).2,.I .u64 p])]):=by rw[hgj];exact yq p H.hp H.le f1 g af af te.bQ.c.1 g1.c te.bQ.ne g1.ne
    refine aC (ai (aj (aK (rr ae (hp:=aR) (rr ae ?_)))));refine aj (rb (rc ae ae alH (re ae ?_)));refine aK (bA (α:=Nat×List Int×Nat) (λx=>⟨[(1,.c (.P 0 0)),(3,.c (.X 3000000)),(4,cI m),(60,cS PT (lP p Ls)),(61,cI Ls.length),(62,cI j),(11,.c (.P 10002000 0)),(12,cI x.2.2),(13,.c (.P 12006000 0)),(14,.c (.P 12007000 0))],[(3000000,.vec 33 MT l1),(0,.box 101 0 [.S aM x.2.1,.I .u64 p]),(10002000,.box 101 0 [.S aM g,.I .u64 p]),(12006000,.box 101 0 [.S aM (bM x.2.1 g p).1,.I .u64 p]),(12007000,.box 101 0 [.S aM (bM x.2.1 g p).2,.I .u64 p])],13,[]⟩) (λx=>pull p g x.1 x.2.1 x.2.2=pull p g (f1.length+1) f1 0∧x.2.1.length<x.1∧Mon p x.2.1∧x.2.2+x.2.1.length≤f1.length) (λx=>x.2.1.length) (f1.length+1,f1,0) ⟨ae,fN _,te.bQ,by show 0+f1.length≤_;omega⟩ ?_ ?_)
    ·refine(wk ⟨sR ae,sR ae,sR ae,sR ae,sR ae,sR ae,sR ae,sR ae,sR ae,sR ae,ah⟩ ⟨bR ae,bR ae,bE ae ?_,bR ae,bR ae,ah⟩);exact az (λz:List Int×Int=>aJ.box 101 0 [.S aM z.1,.I .u64 z.2]) hgj
    rintro⟨kf,f2,n⟩ ⟨jk,alI,u6,hp4⟩;simp only at jk alI u6 hp4;have asR:=u6.pos;obtain⟨kf,rfl⟩:∃q,kf=q+1:=⟨kf-1,by omega⟩;refine aj (rr ae (ax ae (λh6=>?_) (λh6=>?_)))
    ·have h6:(bM f2 g p).2=[]:=by have h6:(((bM f2 g p).2.length:Nat):Int)=0:=eq_of_beq h6;exact ik af
     have rJ:=(LX H u6.c g1.c g1.ne).1 h6;have alK:g.length≤f2.length:=by have:=kD H rJ (u6.m8 H);rwa[de g1.c,de u6.c]at this
     have hq:=LW H u6 g1 alK;obtain⟨_,_,_,_,_,rI⟩:=k8 H.hp H.le u6.c.1 g1.c g1.ne;have S8:=hq.pos;rw[pull,aw h6]at jk;have alL:=yq p H.hp H.le (bM f2 g p).1 g af af hq.c.1 g1.c hq.ne g1.ne;refine aC (ai (aj (aK (rr ae (rt ae (hp:=aR) (a7 (ai (aj (rr ae (rt ae (ai (cG (rc ae ae alL (re ae ?_))))))))))))));refine a8 (kf,(bM f2 g p).1,n+1) ⟨jk,by show(bM f2 g p).1.length<kf;omega,hq,by show n+1+(bM f2 g p).1.length≤f1.length;omega⟩ (by show(bM f2 g p).1.length<f2.length;omega) ?_;refine Wk.trans (xc (mw 12006000 17000000) (st':=⟨[(1,.c (.P 0 0)),(3,.c (.X 3000000)),(4,cI m),(60,cS PT (lP p Ls)),(61,cI Ls.length),(62,cI j),(11,.c (.P 10002000 0)),(12,cI ((n+1:Nat):Int)),(13,.c (.P 12006000 0)),(14,.c (.P 17002000 0))],[(3000000,.vec 33 MT l1),(0,.box 101 0 [.S aM (bM f2 g p).1,.I .u64 p]),(10002000,.box 101 0 [.S aM g,.I .u64 p]),(12006000,.box 101 0 [.S aM (bM (bM f2 g p).1 g p).1,.I .u64 p]),(17002000,.box 101 0 [.S aM (bM (bM f2 g p).1 g p).2,.I .u64 p])],19,[]⟩) ⟨sR ae,sR ae,sR ae,sR ae,sR ae,sR ae,sR ae,sR ae,sR ae,sR ae,ah⟩ ⟨bE ae ae,bE ae ae,bE ae ae,bE ae ae,bE ae ae,ah⟩ ae (ES ae) (eO.of ae)) ?_;exact xc (mw 12007000 17002000) ⟨sR ae,sR ae,sR ae,sR ae,sR ae,sR ae,sR ae,sR ae,sR ae,sR ae,ah⟩ ⟨bE ae ae,bE ae ae,bE ae ae,bE ae ae,bE ae ae,ah⟩ ae (ES ae) (eO.of ae)
    ·have h6:(bM f2 g p).2≠[]:=by intro e;have h6:(((bM f2 g p).2.length:Nat):Int)≠0:=kN h6;rw[e]at h6;exact h6 ae
     rw[pull,aq h6]at jk;rw[←jk]at cx2 r1 r2 r3 hP r5;simp only at cx2 r1 r2 r3 hP r5;refine bp (bu (br (bq (ai ?_))));refine cG (rl MT [(g,(n:Int)*(m:Int))] ae ae (ra ae ae ae ae ae ae ae ae ae ?_ ?_ (re ae ?_)) (hp:=?_))
     ·show(_+1+(_+1)/4+192)*32≤_;omega
     ·show(_+1)*2≤_;omega
     ·exact a7 (ai (rt ae (hp:=aR) (a8 (j+1,f2,l1++[(g,(n:Int)*(m:Int))]) ⟨m9,hP,r1,r2,by show f2.length≤200;omega⟩ (by show Ls.length-(j+1)<Ls.length-j;omega) (Wk.trans (wk (st':=⟨[(1,.c (.P 0 0)),(3,.c (.X 14008000)),(4,cI m),(60,cS PT (lP p Ls)),(61,cI Ls.length),(62,cI ((j+1:Nat):Int))],[(14008000,.vec 33 MT (l1++[(g,(n:Int)*(m:Int))])),(0,.box 101 0 [.S aM f2,.I .u64 p])],16,[]⟩) ⟨sR ae,sR ae,sR ae,sR ae,sR ae,sR ae,ah⟩ ⟨bE ae ae,bE ae ae,ah⟩) (Wk.trans (qq 3000000 14008000 ae ae ae) ck)))))
     ·have hnm:=j4 (show(0:Int)≤(n:Int)by omega) (show(0:Int)≤(m:Int)by omega);simp only[Pr.an,Pr.h,num,aA,true_and,and_true];omega
   ·have m9:j=Ls.length:=by have h5:¬(j:Int)<(Ls.length:Int):=bC h5;omega
    subst m9;rw[JY,oA]at hP;rw[←hP]at z1 z3 hL;simp only at z1 z3 hL;exact bp (bu (br (bq (a7 (a8 (k,f1,m,l1) ⟨hL,by show f1.length≤k;omega,D4,te⟩ (by show f1.length<f.length;omega) ck)))))
 ·have h:f.length≤1:=by have h:¬(f.length:Int)-1>0:=bC h;omega
  have hl:qP H k f m l=l:=by
   cases k with
   |zero=>rfl
   |succ k=>rw[qP,aw h]
  rw[hl]at hL;rw[←hL];exact bp (bu (br (bq (ai (rr ae (aF (ya (id:=3000000) ar ae ae)))))))
end Go.El
namespace Go.El
open Go Go.Proofs
def lh(a b:Int):Int:=if a<b then-1 else if a>b then 1 else 0
def uq(a b:List Int):Nat→Int
 |0=>0
 |i+1=>if lh (a.getD i 0) (b.getD i 0)≠0 then lh (a.getD i 0) (b.getD i 0)else uq a b i
def lj(a b:List Int):Int:=if a.length≠b.length then lh a.length b.length else uq a b a.length
def aaU(a:Int):aG Tryz.prog 132 [cU a] (cB false):=by refine aX Tryz.func132 ae ae ae ae ae ak ?_;refine rr ae (rr ae (aF (aL ar ae (au.of_eq ?_))));simp
def aaV(a:Int):aG Tryz.prog 195 [cI a] (cB false):=by refine aX Tryz.func195 ae ae ae ae ae ak ?_;refine rr ae (rr ae (aF (aL ar ae (au.of_eq ?_))));simp
def alM(a b:Int):aG Tryz.prog 67 [cU a,cU b] (cI (lh a b)):=by
 refine aX Tryz.func67 ae ae ae ae ae ak ?_;refine rr ae (rb (rc ae ae (aaU a) (re ae (rb (rc ae ae (aaU b) (re ae (aj (rr ae (ax ae (λh=>by cases h) (λ_=>aC (ai ?_)))))))))));refine aj (rr ae (ax ae (λh=>by cases h) (λ_=>aC (ai ?_))));refine aj (rr ae (ax ae (λh=>?_) (λh=>aC (ai ?_))))
 ·have h:a<b:=bc h;refine rr ae (aF (bW (aL ar ae (au.of_eq ?_))));rw[lh,aw h];rfl
 ·have h:¬a<b:=bC h;refine aj (rr ae (ax ae (λh2=>?_) (λh2=>aC (ai ?_))))
  ·have h2:a>b:=bc h2;refine rr ae (aF (bW (aL ar ae (au.of_eq ?_))));rw[lh,aq h,aw h2];rfl
  ·have h2:¬a>b:=bC h2;refine rr ae (aF (aL ar ae (au.of_eq ?_)));rw[lh,aq h,aq h2];rfl
def aaW(a b:Int):aG Tryz.prog 131 [cI a,cI b] (cI (lh a b)):=by
 refine aX Tryz.func131 ae ae ae ae ae ak ?_;refine rr ae (rb (rc ae ae (aaV a) (re ae (rb (rc ae ae (aaV b) (re ae (aj (rr ae (ax ae (λh=>by cases h) (λ_=>aC (ai ?_)))))))))));refine aj (rr ae (ax ae (λh=>by cases h) (λ_=>aC (ai ?_))));refine aj (rr ae (ax ae (λh=>?_) (λh=>aC (ai ?_))))
 ·have h:a<b:=bc h;refine rr ae (aF (bW (aL ar ae (au.of_eq ?_))));rw[lh,aw h];rfl
 ·have h:¬a<b:=bC h;refine aj (rr ae (ax ae (λh2=>?_) (λh2=>aC (ai ?_))))
  ·have h2:a>b:=bc h2;refine rr ae (aF (bW (aL ar ae (au.of_eq ?_))));rw[lh,aq h,aw h2];rfl
  ·have h2:¬a>b:=bC h2;refine rr ae (aF (aL ar ae (au.of_eq ?_)));rw[lh,aq h,aq h2];rfl
abbrev lW(f:Nat):AV:= .c (.V (.func (.func f) ⟨[]⟩ ⟨[]⟩))
def alN(a b:List Int)(la:a.length≤1000)(lb:b.length≤1000):aG Tryz.prog 66 [cS aM a,cS aM b,lW 67] (cI (lj a b)):=by
 refine aX Tryz.func66 ae ae ae ae ae ak ?_;refine rr ae (aj (rr ae (ax ae (λh=>?_) (λh=>aC (ai ?_)))))
 ·have h:a.length≠b.length:=λe=>by simp[e]at h
  refine rb (rc ae ae (aaW a.length b.length) (re ae (aF (bW (aL ar ae (au.of_eq ?_))))));rw[lj,aw h]
 ·have h:a.length=b.length:=by have:(a.length:Int)=(b.length:Int):=cd;omega
  have hL:lj a b=uq a b a.length:=by rw[lj,aq (λe=>e h)]
  rw[hL];refine aj (rr ae (aK (bA (α:=Nat) (λi=>⟨[(0,cS aM a),(1,cS aM b),(2,lW 67),(7,cI ((i:Int)-1))],[],3,[]⟩) (λi=>i≤a.length∧uq a b i=uq a b a.length) (λi=>i) a.length ⟨bF _,ae⟩ ck ?_)));rintro i ⟨hi,hr⟩;refine aj (rr ae (ax ae (λh1=>?_) (λh1=>?_)))
  ·have h1:0<i:=by have h1:(i:Int)-1≥0:=bc h1;omega
   obtain⟨i,rfl⟩:∃k,i=k+1:=⟨i-1,by omega⟩;have ei:(((i+1:Nat):Int)-1).toNat=i:=af;have hc:aG Tryz.prog 67 ([]++([cU (a.getD (((i+1:Nat):Int)-1).toNat 0),cU (b.getD (((i+1:Nat):Int)-1).toNat 0)]++[])) (cI (lh (a.getD i 0) (b.getD i 0))):=by rw[ei];exact alM _ _
   rw[uq]at hr;refine aC (ai (aj (aK (rb (Ce ae ae (.inl ⟨ae,ae,ae⟩) ae hc (re ae (rr ae (ax ae (λh2=>?_) (λh2=>?_)))) (hp:=aR))))))
   ·have h2:lh (a.getD i 0) (b.getD i 0)≠0:=λe=>by rw[e]at h2;simp at h2
    rw[aw h2]at hr;rw[←hr];exact rr ae (aF (fC (bW (ix (fC (bW (aL ar ae (au.refl _))))))))
   ·have h2:lh (a.getD i 0) (b.getD i 0)=0:=by generalize lh (a.getD i 0) (b.getD i 0)=z at*;simpa using h2
    rw[aq (λe=>e h2)]at hr;refine aC (a7 (ai (rt ae (hp:=aR) (a8 i ⟨by omega,hr⟩ (by show i<i+1;omega) (wk ⟨sR ae,sR ae,sR ae,sE ae ?_,ah⟩ ah)))));exact az cI af
  ·have h1:i=0:=by have h1:¬(i:Int)-1≥0:=bC h1;omega
   subst h1;rw[←hr];exact bp (bu (br (bq (ai (rr ae (aF (aL ar ae (au.refl _))))))))
def alO(x y:List Int×Int)(lx:x.1.length≤1000)(ly:y.1.length≤1000):aG Tryz.prog 65 ([]++([.a (av MT x),.a (av MT y)]++[])) (cI (lj x.1 y.1)):=by refine aX Tryz.func65 ae ae ae ae ae ak ?_;exact rr ae (rb (rc ae ae (alN x.1 y.1 lx ly) (re ae (aF (aL ar ae (au.refl _))))))
end Go.El
namespace Go.El
section
variable{α:Type}{d:α}{cm:α→α→Int}
def vw(d:α)(xs:List (α))(j:Nat):List (α):=(xs.set (j+1) (xs.getD j d)).set j (xs.getD (j+1) d)
def rT(d:α)(cm:α→α→Int):Nat→List (α)→List (α)
 |0,xs=>xs
 |j+1,xs=>if cm (xs.getD (j+1) d) (xs.getD j d)<0 then rT d cm j (vw d xs j)else xs
def jd(d:α)(cm:α→α→Int)(xs:List (α)):Nat→List (α)
 |0=>xs
 |i+1=>rT d cm (i+1) (jd d cm xs i)
def Is(xs:List (α))(j:Nat):(vw d xs j).length=xs.length:=by simp[vw]
def aaX:∀(j:Nat)(xs:List (α)),(rT d cm j xs).length=xs.length
 |0,_=>rfl
 |j+1,xs=>by
  rw[rT];split
  ·rw[aaX j,Is]
  ·rfl
def Az(xs:List (α)):∀i,(jd d cm xs i).length=xs.length
 |0=>rfl
 |i+1=>by rw[jd,aaX,Az xs i]
def EY{xs:List (α)}{i:Nat}(h:i<xs.length):xs.getD i d=xs[i]:=by rw[aY,ct h];rfl
def S9{xs:List (α)}{j:Nat}(h:j+1<xs.length):(vw d xs j).Perm xs:=by
 have e1:xs=xs.take j++(xs[j]::xs[j+1]::xs.drop (j+2)):=by rw[←pR h,←pR (show j<xs.length by omega),AY]
 have e2:vw d xs j=xs.take j++(xs[j+1]::xs[j]::xs.drop (j+2)):=by
  unfold vw;rw[EY h,EY (show j<xs.length by omega)];generalize xs[j]=a at*;generalize xs[j+1]=b at*;generalize hA:xs.take j=A at*;generalize xs.drop (j+2)=B at*;have hl:A.length=j:=by rw[←hA,fD];omega
  rw[e1,pS _ _ af,pS _ _ af,hl,iG,show j+1-j=1 by omega];rfl
 rw[e2];conv=>rhs;rw[e1]
 exact(List.Perm.swap _ _ _).append_left _
def aaY:∀(j:Nat)(xs:List (α)),j<xs.length→(rT d cm j xs).Perm xs
 |0,_,_=>zf _
 |j+1,xs,h=>by
  rw[rT];split
  ·exact(aaY j _ (by rw[Is];omega)).trans (S9 h)
  ·exact zf _
def It(xs:List (α)):∀i,i<xs.length→(jd d cm xs i).Perm xs
 |0,_=>zf _
 |i+1,h=>(aaY (i+1) _ (by rw[Az];exact h)).trans (It xs i af)
def aaZ{xs:List (α)}{i:Nat}(h:i=0∨i<xs.length){x:α}(hx:x∈jd d cm xs i):x∈xs:=by
 rcases h with rfl|h
 ·exact hx
 ·exact(It xs i h).mem_iff.1 hx
def alP{xs:List (α)}{j:Nat}(h:j+1<xs.length)(t:Nat):(vw d xs j).getD t d=if t=j then xs.getD (j+1) d else if t=j+1 then xs.getD j d else xs.getD t d:=by
 have hs:∀(l:List (α))(i c:Nat)(x:α),i<l.length→(l.set i x).getD c d=if i=c then x else l.getD c d:=by
  intro l i c x h;rw[aY,F7];by_cases e:i=c
  ·subst e;rw[aw ae,aw ae,aw h];rfl
  ·rw[aq e,aq e,aY]
 unfold vw;rw[hs _ _ _ _ (by rw[gK];omega),hs _ _ _ _ h];by_cases e:j=t
 ·subst e;rw[aw ae,aw ae]
 ·have e':¬t=j:=λq=>e q.symm
  rw[aq e,aq e'];by_cases e2:j+1=t
  ·subst e2;rw[aw ae];first|done|rw[aw rfl]
  ·have e3:¬t=j+1:=λq=>e2 q.symm
   rw[aq e2,aq e3]
def S'(d:α)(cm:α→α→Int)(xs:List (α))(k:Nat):Prop:=∀t,t<k→0≤cm (xs.getD (t+1) d) (xs.getD t d)
def aa0(vz:∀a b,cm a b= -cm b a){n:Nat}:∀(j:Nat)(xs:List (α)),n<xs.length→j≤n→(∀t,t+1<j→0≤cm (xs.getD (t+1) d) (xs.getD t d))→(∀t,j≤t→t<n→0≤cm (xs.getD (t+1) d) (xs.getD t d))→(j<n→0<j→0≤cm (xs.getD (j+1) d) (xs.getD (j-1) d))→S' d cm (rT d cm j xs) n
 |0,xs,_,_,_,h2,_=>λt ht=>h2 t (bK _) ht
 |j+1,xs,hn,hj,h1,h2,h3=>by
  rw[rT];split
  ·rename_i bh;have hg:=λt=>alP (d:=d) (xs:=xs) (j:=j) af t
   refine aa0 vz j (vw d xs j) (by rw[Is];exact hn) af (λt ht=>?_) (λt Ei vA=>?_) (λ_ Cb=>?_)
   ·rw[hg,hg,aq af,aq af,aq af,aq af];exact h1 t af
   ·rw[hg,hg];by_cases e:t=j
    ·subst e;rw[aq af,aw ae,aw ae,vz];omega
    ·rw[aq af,aq af];by_cases e2:t=j+1
     ·subst e2;rw[aq af,aw ae];exact h3 af af
     ·rw[aq af,aq e2];exact h2 t af vA
   ·rw[hg,hg,aq af,aw ae,aq af,aq af];have:=h1 (j-1) af;rwa[show j-1+1=j by omega]at this
  ·rename_i tD;intro t ht;by_cases e:t<j
   ·exact h1 t af
   ·by_cases e2:t=j
    ·subst e2;omega
    ·exact h2 t af ht
def Ta(vz:∀a b,cm a b= -cm b a)(xs:List (α)):∀i,i<xs.length→S' d cm (jd d cm xs i) i
 |0,_=>λt ht=>by omega
 |i+1,h=>by have ih:=Ta vz xs i af;rw[jd];exact aa0 vz (i+1) _ (by rw[Az];exact h) (bF _) (λt ht=>ih t af) (λt h1 h2=>by omega) (λh1=>by omega)
end
end Go.El
namespace Go.El
open Go Go.Proofs Fx
abbrev fU:List Int×Int:=([],0)
def xh(xs:List (List Int×Int))(j:Nat):List (List Int×Int):=(xs.set (j+1) (xs.getD j fU)).set j (xs.getD (j+1) fU)
def vB:Nat→List (List Int×Int)→List (List Int×Int)
 |0,xs=>xs
 |j+1,xs=>if lj (xs.getD (j+1) fU).1 (xs.getD j fU).1<0 then vB j (xh xs j)else xs
def lZ(xs:List (List Int×Int)):Nat→List (List Int×Int)
 |0=>xs
 |i+1=>vB (i+1) (lZ xs i)
def Mz(xs:List (List Int×Int))(j:Nat):(xh xs j).length=xs.length:=by simp[xh]
def aa1:∀(j:Nat)(xs:List (List Int×Int)),(vB j xs).length=xs.length
 |0,_=>rfl
 |j+1,xs=>by
  rw[vB];split
  ·rw[aa1 j,Mz]
  ·rfl
def EZ(xs:List (List Int×Int)):∀i,(lZ xs i).length=xs.length
 |0=>rfl
 |i+1=>by rw[lZ,aa1,EZ xs i]
def getM{xs:List (List Int×Int)}{i:Nat}(h:i<xs.length):xs.getD i fU=xs[i]:=by rw[aY,ct h];rfl
def aa2{xs:List (List Int×Int)}{j:Nat}(h:j+1<xs.length):(xh xs j).Perm xs:=by
 have e1:xs=xs.take j++(xs[j]::xs[j+1]::xs.drop (j+2)):=by rw[←pR h,←pR (show j<xs.length by omega),AY]
 have e2:xh xs j=xs.take j++(xs[j+1]::xs[j]::xs.drop (j+2)):=by
  unfold xh;rw[getM h,getM (show j<xs.length by omega)];generalize xs[j]=a at*;generalize xs[j+1]=b at*;generalize hA:xs.take j=A at*;generalize xs.drop (j+2)=B at*;have hl:A.length=j:=by rw[←hA,fD];omega
  rw[e1,pS _ _ af,pS _ _ af,hl,iG,show j+1-j=1 by omega];rfl
 rw[e2];conv=>rhs;rw[e1]
 exact(List.Perm.swap _ _ _).append_left _
def aa3:∀(j:Nat)(xs:List (List Int×Int)),j<xs.length→(vB j xs).Perm xs
 |0,_,_=>zf _
 |j+1,xs,h=>by
  rw[vB];split
  ·exact(aa3 j _ (by rw[Mz];omega)).trans (aa2 h)
  ·exact zf _
def Tb(xs:List (List Int×Int)):∀i,i<xs.length→(lZ xs i).Perm xs
 |0,_=>zf _
 |i+1,h=>(aa3 (i+1) _ (by rw[EZ];exact h)).trans (Tb xs i af)
def alQ{xs:List (List Int×Int)}{i:Nat}(h:i=0∨i<xs.length){x:List Int×Int}(hx:x∈lZ xs i):x∈xs:=by
 rcases h with rfl|h
 ·exact hx
 ·exact(Tb xs i h).mem_iff.1 hx
def alR{xs:List (List Int×Int)}{j:Nat}(h:j+1<xs.length)(t:Nat):(xh xs j).getD t fU=if t=j then xs.getD (j+1) fU else if t=j+1 then xs.getD j fU else xs.getD t fU:=by
 have hs:∀(l:List (List Int×Int))(i c:Nat)(x:List Int×Int),i<l.length→(l.set i x).getD c fU=if i=c then x else l.getD c fU:=by
  intro l i c x h;rw[aY,F7];by_cases e:i=c
  ·subst e;rw[aw ae,aw ae,aw h];rfl
  ·rw[aq e,aq e,aY]
 unfold xh;rw[hs _ _ _ _ (by rw[gK];omega),hs _ _ _ _ h];by_cases e:j=t
 ·subst e;rw[aw ae,aw ae]
 ·have e':¬t=j:=λq=>e q.symm
  rw[aq e,aq e'];by_cases e2:j+1=t
  ·subst e2;rw[aw ae];first|done|rw[aw rfl]
  ·have e3:¬t=j+1:=λq=>e2 q.symm
   rw[aq e2,aq e3]
def aa4(xs:List (List Int×Int))(k:Nat):Prop:=∀t,t<k→0≤lj (xs.getD (t+1) fU).1 (xs.getD t fU).1
def Tc(a b:Int):lh a b= -lh b a:=by unfold lh;split<;>split<;>(try split)<;>omega
def aa5(a b:List Int):∀i,uq a b i= -uq b a i
 |0=>rfl
 |i+1=>by
  rw[uq,uq,Tc (b.getD i 0) (a.getD i 0),aa5 a b i];generalize lh (a.getD i 0) (b.getD i 0)=z;by_cases h:z=0
  ·rw[aq (λe=>e h),aq (λe=>e af)]
  ·rw[aw h,aw af];omega
def aa6(a b:List Int):lj a b= -lj b a:=by
 unfold lj;by_cases h:a.length=b.length
 ·rw[aq (λe=>e h),aq (λe=>e h.symm),aa5,h]
 ·rw[aw h,aw (λe=>h e.symm),Tc]
def aa7{n:Nat}:∀(j:Nat)(xs:List (List Int×Int)),n<xs.length→j≤n→(∀t,t+1<j→0≤lj (xs.getD (t+1) fU).1 (xs.getD t fU).1)→(∀t,j≤t→t<n→0≤lj (xs.getD (t+1) fU).1 (xs.getD t fU).1)→(j<n→0<j→0≤lj (xs.getD (j+1) fU).1 (xs.getD (j-1) fU).1)→aa4 (vB j xs) n
 |0,xs,_,_,_,h2,_=>λt ht=>h2 t (bK _) ht
 |j+1,xs,hn,hj,h1,h2,h3=>by
  rw[vB];split
  ·rename_i bh;have hg:=λt=>alR (xs:=xs) (j:=j) af t
   refine aa7 j (xh xs j) (by rw[Mz];exact hn) af (λt ht=>?_) (λt Ei vA=>?_) (λ_ Cb=>?_)
   ·rw[hg,hg,aq af,aq af,aq af,aq af];exact h1 t af
   ·rw[hg,hg];by_cases e:t=j
    ·subst e;rw[aq af,aw ae,aw ae,aa6];omega
    ·rw[aq af,aq af];by_cases e2:t=j+1
     ·subst e2;rw[aq af,aw ae];exact h3 af af
     ·rw[aq af,aq e2];exact h2 t af vA
   ·rw[hg,hg,aq af,aw ae,aq af,aq af];have:=h1 (j-1) af;rwa[show j-1+1=j by omega]at this
  ·rename_i tD;intro t ht;by_cases e:t<j
   ·exact h1 t af
   ·by_cases e2:t=j
    ·subst e2;omega
    ·exact h2 t af ht
def aa8(xs:List (List Int×Int)):∀i,i<xs.length→aa4 (lZ xs i) i
 |0,_=>λt ht=>by omega
 |i+1,h=>by have ih:=aa8 xs i af;rw[lZ];exact aa7 (i+1) _ (by rw[EZ];exact h) (bF _) (λt ht=>ih t af) (λt h1 h2=>by omega) (λh1=>by omega)
def aa9(x:List Int×Int):jn (.a (List.take 2 (List.drop 0 (av MT x))))=some (av MT x):=by rcases x with⟨a,b⟩;rfl
set_option maxRecDepth 100000 in
set_option maxHeartbeats 4000000 in
def alS(xs:List (List Int×Int))(hl:xs.length≤12)(hx:∀x∈xs,x.1.length≤1000):mZ Tryz.prog 185 [.c (.X 0),cI 0,cI xs.length,lW 65] 33 MT xs (.t []) (lZ xs (xs.length-1)):=by
 refine qt Tryz.func185 ae ae ae ae ae ak ?_;refine rr ae ?_;refine aK (bA (α:=Nat) (λi=>⟨[(0,.c (.X 0)),(1,cI 0),(2,cI xs.length),(3,lW 65),(8,cI i)],[(0,.vec 33 MT (lZ xs (i-1)))],2,[]⟩) (λi=>1≤i∧i-1≤xs.length-1) (λi=>xs.length-i) 1 ⟨bF _,bK _⟩ (wk ⟨sR ae,sR ae,sR ae,sR ae,sR ae,ah⟩ ⟨bE ae ae,ah⟩) ?_);rintro i ⟨tM,hi⟩;refine aj (rr ae (ax ae (λh=>?_) (λh=>?_)))
 ·have h:i<xs.length:=by have h:(i:Int)<(xs.length:Int):=bc h;omega
  have hS:lZ xs i=vB i (lZ xs (i-1)):=by obtain⟨q,rfl⟩:∃q,i=q+1:=⟨i-1,by omega⟩;rfl
  refine aC (ai (aj (aK (rr ae ?_))));refine aK (bA (α:=Nat×List (List Int×Int)) (λx=>⟨[(0,.c (.X 0)),(1,cI 0),(2,cI xs.length),(3,lW 65),(8,cI i),(9,cI x.1)],[(0,.vec 33 MT x.2)],4,[]⟩) (λx=>vB x.1 x.2=lZ xs i∧x.1≤i∧x.2.length=xs.length∧∀y∈x.2,y.1.length≤1000) (λx=>x.1) (i,lZ xs (i-1)) ⟨hS.symm,bF _,EZ xs _,λy hy=>hx y (alQ af hy)⟩ ck ?_);rintro⟨j,ys⟩ ⟨fh,jy,nS,rU⟩;simp only at fh jy nS rU;refine aj (rb (rg 21 ae ae (λh1=>?_) (λh1=>?_)))
  ·have h1:0<j:=by have h1:(j:Int)>0:=bc h1;omega
   obtain⟨j,rfl⟩:∃q,j=q+1:=⟨j-1,by omega⟩;have e1:(((j+1:Nat):Int)).toNat=j+1:=bw _;have e2:(((j+1:Nat):Int)-1).toNat=j:=af;have g1:ys.getD (j+1) fU∈ys:=by rw[getM af];exact mO _
   have g2:ys.getD j fU∈ys:=by rw[getM af];exact mO _
   have hc:aG Tryz.prog 65 ([]++([.a (av MT (ys.getD (((j+1:Nat):Int)).toNat fU)),.a (av MT (ys.getD (((j+1:Nat):Int)-1).toNat fU))]++[])) (cI (lj (ys.getD (j+1) fU).1 (ys.getD j fU).1)):=by rw[e1,e2];exact alO _ _ (rU _ g1) (rU _ g2)
   rw[vB]at fh;refine Sp ae ae ae ae ae (.inl ⟨ae,ae,ae⟩) ae hc (re ae (ax ae (λh2=>?_) (λh2=>?_))) (hp:=aR)
   ·have h2:lj (ys.getD (j+1) fU).1 (ys.getD j fU).1<0:=bc h2;rw[aw h2]at fh;refine aC (ai (aj (aK (cG (lO (ys.getD j fU) ae ae ae ae ?_ ?_ (lO (ys.getD (j+1) fU) ae ae ae ae ?_ ?_ (re ae ?_) (hp:=?_)) (hp:=?_))))))
    ·show jn (.a (List.take 2 (List.drop 0 (av MT (ys.getD (((j+1:Nat):Int)-1).toNat fU)))))=_;rw[e2];exact aa9 _
    ·show(((j+1:Nat):Int)).toNat<ys.length;omega
    ·show jn (.a (List.take 2 (List.drop 0 (av MT (ys.getD (((j+1:Nat):Int)).toNat fU)))))=_;rw[e1];exact aa9 _
    ·show(((j+1:Nat):Int)-1).toNat<(ys.set _ _).length;rw[gK];omega
    ·refine a7 (ai (rt ae (hp:=aR) (a8 (j,xh ys j) ⟨fh,by show j≤i;omega,by rw[Mz];exact nS,λy hy=>rU y ((aa2 af).mem_iff.1 hy)⟩ pP (wk ⟨sR ae,sR ae,sR ae,sR ae,sR ae,⟨_,ae,?_⟩,ah⟩ ⟨bE ae ?_,ah⟩))))
     ·exact au.of_eq (az (λz=>AV.c (C.I .i64 z)) (show((j+1:Nat):Int)-1=(j:Int)by omega))
     ·show aJ.vec 33 MT ((ys.set (((j+1:Nat):Int)).toNat _).set (((j+1:Nat):Int)-1).toNat _)=_;rw[e1,e2];rfl
    ·show 0≤((j+1:Nat):Int)-1∧((j+1:Nat):Int)-1<((ys.set _ _).length:Int);rw[gK];omega
    ·simp only[Pr.an,Pr.h,num,aA,true_and,and_true];omega
   ·have h2:¬lj (ys.getD (j+1) fU).1 (ys.getD j fU).1<0:=bC h2;rw[aq h2]at fh;subst fh;exact bp (bu (br (bq (a7 (ai (rt ae (hp:=aR) (a8 (i+1) ⟨by omega,by omega⟩ FU (wk ⟨sR ae,sR ae,sR ae,sR ae,sE ae ae,ah⟩ ⟨bR ae,ah⟩))))))))
  ·have h1:j=0:=by have h1:¬(j:Int)>0:=bC h1;omega
   subst h1;have fh:ys=lZ xs i:=fh;subst fh;exact re ae (ax ae (λh2=>by cases h2) (λ_=>bp (bu (br (bq (a7 (ai (rt ae (hp:=aR) (a8 (i+1) ⟨by omega,by omega⟩ FU (wk ⟨sR ae,sR ae,sR ae,sR ae,sE ae ae,ah⟩ ⟨bR ae,ah⟩))))))))))
 ·have h:i-1=xs.length-1:=by have h:¬(i:Int)<(xs.length:Int):=bC h;omega
  rw[h];exact bp (bu (br (bq (zW ar ae (au.refl _) ae))))
set_option maxRecDepth 100000 in
set_option maxHeartbeats 4000000 in
def alT(xs:List (List Int×Int))(hl:xs.length≤12)(hx:∀x∈xs,x.1.length≤1000)(t:Int):mZ Tryz.prog 129 [.c (.X 0),cI 0,cI xs.length,cI t,lW 65] 33 MT xs (.t []) (lZ xs (xs.length-1)):=by
 refine qt Tryz.func129 ae ae ae ae ae ak ?_;refine rr ae (rr ae ?_);refine aK (bA (α:=Unit) (λ_=>⟨[(0,.c (.X 0)),(1,cI 0),(2,cI xs.length),(3,cI t),(4,lW 65)],[(0,.vec 33 MT xs)],3,[]⟩) (λ_=>True) (λ_=>0) () ah ck ?_);rintro- -;refine aK (rr ae (aj (rr ae (ax ae (λh=>?_) (λh=>?_)))))
 ·exact rb (nX 0 ae (alS xs hl hx) ae ae (re ae (aF (bW (fC (ix (fC (tT ar ae (au.refl _) ae))))))))
 ·have h:¬((xs.length:Int)-0≤12):=bC h;omega
def alU(xs:List (List Int×Int))(hl:xs.length≤12)(hx:∀x∈xs,x.1.length≤1000):mZ Tryz.prog 64 [.c (.X 0),lW 65] 33 MT xs (.t []) (lZ xs (xs.length-1)):=by
 refine qt Tryz.func64 ae ae ae ae ae ak ?_;refine rr ae ?_;have hlen:aG Tryz.prog 130 [AV.c (num .u64 (xs.length:Int)).1] (cI (qy xs.length)):=by rw[show(AV.c (num .u64 (xs.length:Int)).1)=cU (xs.length:Int)from az (λx=>AV.c (C.I .u64 x)) (wrap_u64 _ af af)];exact Lf _ hl
 refine cG (rc ae ae hlen (nX 0 ae (alT xs hl hx _) ae ae (re ae (zW ar ae (au.refl _) ae))))
end Go.El
namespace Go.El
open Go Go.Proofs
def aa'{m:Nat}(h:(ay m).length≤2):m<18446744073709551616:=by have h1:=uP (n:=m);have h3:(4294967296:Int)^2=18446744073709551616:=rfl;have h4:(4294967296:Int)^1=4294967296:=rfl;have h5:(4294967296:Int)^0=1:=rfl;rcases(show(ay m).length=0∨(ay m).length=1∨(ay m).length=2 by omega)with e|e|e<;>rw[e]at h1<;>omega
def abb(a b:Int)(ha:Sm a)(hb:Sm b):aG Tryz.prog 203 [aZ a,aZ b] (aZ ((Int.gcd a b:Nat):Int)):=by
 refine aX Tryz.func203 ae ae ae ae ae ak ?_;have tL:∀m:Nat,aZ (sg false m)=aZ ((m:Nat):Int):=λm=>rfl
 refine rr ae (rb (rc ae ae (yk a.natAbs) (rc ae ae (Ld _ ha) (rc ae ae (yk b.natAbs) (rc ae ae (Ld _ hb) (re ae ?_ (ho:=qK gI)))))));refine aj (aK (bA (α:=Nat×Nat) (λx=>⟨[(4,.c (.P 2000 0)),(5,cS aE (ay x.1)),(6,cS aE (ay x.2))],[(2000,.box 44 0 [.B false,.V (.slice none 0 0)])],2,[]⟩) (λx=>Nat.gcd x.1 x.2=Int.gcd a b∧(ay x.1).length≤1099511627776∧(ay x.2).length≤1099511627776) (λx=>x.2) (a.natAbs,b.natAbs) ⟨ae,ha,hb⟩ (wk ⟨sR ae,sR ae,sR ae,ah⟩ ⟨bE ae ae,ah⟩) ?_));rintro⟨m,k⟩ ⟨hg,hm,hk⟩;simp only at hg hm hk;refine aj (rr ae (ax ae (λh=>?_) (λh=>?_)))
 ·have h:k≠0:=by have h:((ay k).length:Int)>0:=bc h;exact m6.1 af
  refine aC (ai (aK (wO ⟨[(4,.c (.P 2000 0)),(5,cS aE (ay m)),(6,cS aE (ay k))],[(2000,.box 44 0 [.B false,.V (.slice none 0 0)])],8,[]⟩ ?_ (λic=>rb (rg 25 ae ae (λh1=>re ae (ax ae (λh2=>?_) (λh2=>aC (my ic (wk ⟨sR ae,sR ae,sR ae,ah⟩ ⟨bE ae ae,ah⟩))))) (λh1=>re ae (ax ae (λh2=>by cases h2) (λh2=>aC (my ic (wk ⟨sR ae,sR ae,sR ae,ah⟩ ⟨bE ae ae,ah⟩))))))))))
  ·refine rb (rc ae ae (YL m k h hm) (re ae (rt ae (a7 (a8 (k,m%k) ⟨?_,hk,?_⟩ (iq _ af) (wk ⟨sR ae,sR ae,sR ae,ah⟩ ⟨bE ae ae,ah⟩))))))
   ·show Nat.gcd k (m%k)=_;rw[←hg,A6 m k,Nat.gcd_rec k m,A6]
   ·exact dG (sU (O2 (iq _ af))) hk
  ·have h1:(ay m).length≤2:=by have h1:((ay m).length:Int)≤2:=bc h1;omega
   have h2:(ay k).length≤2:=by have h2:((ay k).length:Int)≤2:=bc h2;omega
   have b1:=aa' h1;have b2:=aa' h2;refine rb (rc ae ae (Rk m b1) (rc ae ae (Rk k b2) (re ae ?_)));refine aj (aK (bA (α:=Nat×Nat) (λx=>⟨[(4,.c (.P 2000 0)),(7,cU x.1),(8,cU x.2)],[(2000,.box 44 0 [.B false,.V (.slice none 0 0)])],10,[]⟩) (λx=>Nat.gcd x.1 x.2=Int.gcd a b∧x.1<18446744073709551616∧x.2<18446744073709551616) (λx=>x.2) (m,k) ⟨hg,b1,b2⟩ (wk ⟨sR ae,sR ae,sR ae,ah⟩ ⟨bE ae ae,ah⟩) ?_));rintro⟨u,v⟩ ⟨g1,g2,g3⟩;simp only at g1 g2 g3;refine aj (rr ae (ax ae (λh3=>?_) (λh3=>?_)))
   ·have h3:0<v:=by have h3:(v:Int)>0:=bc h3;omega
    have bh:=iq u h3;refine aC (ai (aK (rt ae (a7 (a8 (v,u%v) ⟨?_,g3,by show u%v<_;omega⟩ bh (wk ⟨sR ae,sR ae,sE ae ?_,ah⟩ ⟨bE ae ae,ah⟩))) (hp:=?_))))
    ·show Nat.gcd v (u%v)=_;rw[←g1,A6 u v,Nat.gcd_rec v u,A6]
    ·exact az (λz=>AV.c (C.I .u64 z)) (k7 u v)
    ·simp only[Pr.an,Pr.h,num,aA,true_and,and_true];omega
   ·have h3:v=0:=by have h3:¬(v:Int)>0:=bC h3;omega
    subst h3;rw[JT]at g1;subst g1;refine bp (bu (br (bq (ai (rb (rc ae ae (Lc _ g2) (rc ae ae (pq false _) (re ae (aF ?_)))))))));repeat(first|refine bW ?_|refine fC ?_|refine ix ?_)
    exact aL ar ae (au.refl _)
 ·have h:k=0:=by have h:¬((ay k).length:Int)>0:=bC h;exact Decidable.byContradiction λaN=>by have:=m6.2 aN;omega
  subst h;rw[JT]at hg;subst hg;exact bp (bu (br (bq (ai (rb (rc ae ae (pq false _) (re ae (aF (aL ar ae (au.refl _))))))))))
def aU(n:Nat)(z:Int):Prop:=z.natAbs<4294967296^n
def aU.sm{n:Nat}{z:Int}(h:aU n z)(hn:n≤1099511627776):Sm z:=by
 refine dG (Be (k:=n) ?_) hn;have:((z.natAbs:Nat):Int)<((4294967296^n:Nat):Int):=by have h:z.natAbs<4294967296^n:=h;omega
 rwa[uK]at this
def aU.le{m n:Nat}{z:Int}(h:aU m z)(k:m≤n):aU n z:=kl h (jP ak k)
def aU.mul{m n:Nat}{a b:Int}(h:aU m a)(k:aU n b):aU (m+n) (a*b):=by unfold aU at*;rw[sj,oY];exact Nat.mul_lt_mul'' h k
def aU.add{n:Nat}{a b:Int}(h:aU n a)(k:aU n b):aU (n+1) (a+b):=by unfold aU at*;have:=Int.natAbs_add_le a b;rw[iX];omega
def aU.neg{n:Nat}{a:Int}(h:aU n a):aU n (-a):=by unfold aU at*;rwa[Int.natAbs_neg]
def aU.sub{n:Nat}{a b:Int}(h:aU n a)(k:aU n b):aU (n+1) (a-b):=by rw[OP];exact h.add k.neg
def aU.zero(n:Nat):aU n 0:=by unfold aU;exact mh ak
def aU.emod{n:Nat}{a m:Int}(hm:0<m)(h:aU n m):aU n (a%m):=by have h1:=gT a (show m≠0 by omega);have h2:=il a hm;unfold aU at*;omega
def aU.ediv{n:Nat}{a m:Int}(h0:0≤a)(hm:0<m)(h:aU n a):aU n (a/m):=by have h1:=xB h0 (show 0≤m by omega);have h2:=Int.ediv_le_self m h0;unfold aU at*;omega
def aU.lt{n:Nat}{a m:Int}(h0:0≤a)(hm:a<m)(h:aU n m):aU n a:=by unfold aU at*;omega
def aU.one{a:Int}(h:a.natAbs<4294967296):aU 1 a:=by unfold aU;rwa[Nat.pow_one]
def aU.pow{n:Nat}{a:Int}(h:aU n a):∀k,aU (n*k+1) (a^k)
 |0=>by unfold aU;simp
 |k+1=>by rw[fO];exact((aU.pow h k).mul h).le (by rw[Gd];omega)
def alV(a:Int)(p:Nat)(cK:2≤p)(hp:p≤2147483648)(ha:Sm a):aG Tryz.prog 158 [aZ a,cU p] (cU (a%p)):=by refine aX Tryz.func158 ae ae ae ae ae ak ?_;have h1:=gT a (show(p:Int)≠0 by omega);have h2:=il a (show(0:Int)<p by omega);refine rr ae (rb (rc ae ae (oH p af af) (hp:=aR) (rc ae ae (wP a p af ha (Sm.of af)) (re ae ?_))));refine rb (rc ae ae (ajj (a%p) h1 af) (re ae ?_));refine rr ae (aF (aL ar ae (au.of_eq (az (λz=>AV.c (C.I .u64 z)) ?_))));exact wrap_u64 _ h1 af
set_option maxHeartbeats 1000000 in
def Td(a:List Int)(p:Nat)(la:a.length≤1000)(cK:2≤p)(hp:p≤2147483648)(ha:∀i,Sm (a.getD i 0)):aG Tryz.prog 96 [cS .z a,cU p] (aP (a6 (md p a)) p):=by
 refine aX Tryz.func96 ae ae ae ae ae ak ?_;have Hu:=yo p a;refine rr ae (rb (rm aM a.length ae ae ae ae ae ae (lN .u64) ae ?_ ?_ (re ae (aj (rr ae ?_)))))
 ·show _*8≤_;omega
 ·show _*1≤_;omega
 refine aK (bA (α:=Nat) (λi=>⟨[(0,cS .z a),(1,cU p),(4,.c (.P 0 0)),(5,.c (.X 1002000)),(11,cI a.length),(12,cI i)],[(0,.box 101 0 [.V (.slice none 0 0),.I .u64 0]),(1002000,.vec 25 aM ((md p a).take i++List.replicate (a.length-i) 0))],3,[]⟩) (λi=>i≤a.length) (λi=>a.length-i) 0 (bK _) (wk ⟨sR ae,sR ae,sR ae,sR ae,sR ae,sR ae,ah⟩ ⟨bE ae ae,bE ae ?_,ah⟩) ?_)
 ·simp
 intro i hi;have hl:((md p a).take i).length=i:=cO;have sX:((md p a).take i++List.replicate (a.length-i) (0:Int)).length=a.length:=cO;refine rr ae (aj (ax ae (λh=>?_) (λh=>?_)))
 ·have h:i<a.length:=by have h:(i:Int)<(a.length:Int):=bc h;omega
  have MA:aG Tryz.prog 158 [.a (av .z (a.getD ((i:Int)).toNat 0)),cU p] (cU (a.getD i 0%p)):=by rw[bw];exact alV (a.getD i 0) p cK hp (ha i)
  refine aC (ai (aj (aK (rr ae (cG (rc ae ae MA (hp:=aR) (re ae (hp:=aR) (a7 (ai (rt ae (a8 (i+1) h pQ (wk ⟨sR ae,sR ae,sR ae,sR ae,sR ae,sR ae,ah⟩ ⟨bE ae ae,bE ae ?_,ah⟩))))))))))));refine az (aJ.vec 25 aM) ?_;have e2:=Lh ((md p a).take i) (a.length-(i+1)) (a.getD i 0%p);rw[hl,show a.length-(i+1)+1=a.length-i by omega]at e2;rw[bw,e2,px _ i af,HC]
 ·have h:i=a.length:=by have h:¬(i:Int)<(a.length:Int):=bC h;omega
  subst h;rw[iG,wa,kp,lD af];exact bp (bu (br (bq (ai (fS 1002000 ae ae ae (rb (rc ae ae (Ep (md p a) p af) (re ae (aF (aL ar ae (au.refl _)))))))))))
def alW{m:Nat}(h:(ay m).length=1):(m:Int)=(ay m).getD 0 0:=by
 have:=eT m;rw[←this];match hw:ay m,h with
 |[w],_=>show w+4294967296*0=w;omega
def E3(a:Int):aG Tryz.prog 221 [aZ a] (cB (decide (a=1))):=by
 refine aX Tryz.func221 ae ae ae ae ae ak ?_;refine rr ae (rb (rg 6 ae ae (λh=>?_) (λh=>?_)))
 ·have h0:0≤a:=by have h:(!bN a)=true:=h;simpa[bN]using h
  refine rg 12 ae ae (λh1=>?_) (λh1=>?_)
  ·have h1:(ay a.natAbs).length=1:=by have h1:((ay a.natAbs).length:Int)=1:=eq_of_beq h1;omega
   have h1z:(cY a).length=1:=h1;refine re ae (aF (aL ar ae (au.of_eq (az cB ?_)))) (hp:=?_)
   ·show(((ay a.natAbs).getD 0 0)==1)=decide (a=1);have:=alW h1;by_cases e:a=1
    ·subst e;rfl
    ·rw[kq e];exact beq_eq_false_iff_ne.2 (λe2=>e af)
   ·simp only[Pr.an,Pr.h,num,aA,true_and,and_true];first|done|omega
  ·refine re ae (aF (aL ar ae (au.of_eq (az cB ?_))));rw[kq];intro e;subst e;cases h1
 ·have h0:a<0:=by have h:(!bN a)=false:=h;simpa[bN]using h
  refine rg 12 ae ae (λh1=>by cases h1) (λh1=>?_);refine re ae (aF (aL ar ae (au.of_eq (az cB ?_))));rw[kq af]
def Cp(x y:Int)(hx:Sm x)(hy:Sm y):aG Tryz.prog 150 [cS .z [x,y]] (aZ (x*y)):=by
 refine aX Tryz.func150 ae ae ae ae ae ak ?_;refine rr ae (rb (rc ae ae (oH 1 ak ak) (re ae (aj (rr ae ?_)))));refine aK (bA (α:=Nat) (λi=>⟨[(7,cS .z [x,y]),(2,.c (.P 0 0)),(3,.c (.P 1001000 0)),(8,cI 2),(9,cI i)],[(0,.box 44 0 [.B false,.V (.slice none 0 0)]),(1001000,.box 44 0 (av .z (if i=0 then 1 else if i=1 then x else x*y)))],3,[]⟩) (λi=>i≤2) (λi=>2-i) 0 ak (wk ⟨sR ae,sR ae,sR ae,sR ae,sR ae,ah⟩ ⟨bE ae ae,bE ae ae,ah⟩) ?_);intro i hi;rcases(show i=0∨i=1∨i=2 by omega)with e|e|e
 ·subst e;refine rr ae (aj (ax ae (λ_=>aC (ai ?_)) (λh=>by cases h)));refine aj (aK (rr ae (aK (rb (rc ae ae (E3 x) (re ae (ax ae (λh=>aC ?_) (λh=>?_)))))) (hp:=by simp[Pr.an,Pr.h,num,aA])))
  ·have h:x=1:=bc h;subst h;exact a7 (a7 (ai (rt ae (hp:=aR) (a8 1 ak ak (wk ⟨sR ae,sR ae,sR ae,sR ae,sR ae,ah⟩ ⟨bE ae ae,bE ae ae,ah⟩)))))
  ·refine rb (rc ae ae (E3 1) (re ae (ax ae (λh=>?_) (λh=>by cases h))));exact rt ae (a7 (a7 (ai (rt ae (hp:=aR) (a8 1 ak ak (wk ⟨sR ae,sR ae,sR ae,sR ae,sR ae,ah⟩ ⟨bE ae ae,bE ae ae,ah⟩))))))
 ·subst e;refine rr ae (aj (ax ae (λ_=>aC (ai ?_)) (λh=>by cases h)));refine aj (aK (rr ae (aK (rb (rc ae ae (E3 y) (re ae (ax ae (λh=>aC ?_) (λh=>?_)))))) (hp:=by simp[Pr.an,Pr.h,num,aA])))
  ·have h:y=1:=bc h;subst h;refine a7 (a7 (ai (rt ae (hp:=aR) (a8 2 ak ak (wk ⟨sR ae,sR ae,sR ae,sR ae,sR ae,ah⟩ ⟨bE ae ae,bE ae ?_,ah⟩)))));show aJ.box 44 0 (av .z x)=aJ.box 44 0 (av .z (x*1));rw[nm]
  ·refine rb (rc ae ae (E3 x) (re ae (ax ae (λh=>?_) (λh=>?_))))
   ·have h:x=1:=bc h;subst h;refine rt ae (a7 (a7 (ai (rt ae (hp:=aR) (a8 2 ak ak (wk ⟨sR ae,sR ae,sR ae,sR ae,sR ae,ah⟩ ⟨bE ae ae,bE ae ?_,ah⟩))))));show aJ.box 44 0 (av .z y)=aJ.box 44 0 (av .z (1*y));rw[iY]
   ·exact cG (rc ae ae (tY x y hx hy) (re ae (a7 (a7 (ai (rt ae (hp:=aR) (a8 2 ak ak (wk ⟨sR ae,sR ae,sR ae,sR ae,sR ae,ah⟩ ⟨bE ae ae,bE ae ae,ah⟩))))))))
 ·subst e;refine rr ae (aj (ax ae (λh=>by cases h) (λ_=>?_)));exact bp (bu (br (bq (ai (rr ae (aF (aL ar ae (au.refl _))))))))
structure QS(k:Nat)(r:Rat):Prop where
 n:aU k r.num
 d:aU k (r.den:Int)
def QS.le{j k:Nat}{r:Rat}(h:QS j r)(hk:j≤k):QS k r:=⟨h.n.le hk,h.d.le hk⟩
def abd{a:Int}:cH a<0↔a<0:=by unfold cH;split<;>(try split)<;>omega
def uu{a:Int}:cH a=0↔a=0:=by unfold cH;split<;>(try split)<;>omega
def Iu{r:Rat}{n d:Int}(h1:r.num=n)(h2:(r.den:Int)=d):AV.a [C.B (bN n),C.S aE (cY n),C.B (bN d),C.S aE (cY d)]=aQ r:=by subst h1 h2;rfl
def Te{n d:Int}(hd:0<d):(Rat.divInt n d).num=n/((Int.gcd n d:Nat):Int)∧((Rat.divInt n d).den:Int)=d/((Int.gcd n d:Nat):Int):=by have:=Hn n d af;rwa[aq af]at this
def MB{n d:Int}(hd:0<d)(h:Int.gcd n d=1):(Rat.divInt n d).num=n∧((Rat.divInt n d).den:Int)=d:=by have:=Te (n:=n) hd;rwa[h,show(((1:Nat):Int))=1 from ae,zg,zg]at this
def MC(n d:Int)(hd:0<d)(hn:Sm n)(Iv:Sm d):aG Tryz.prog 258 [aZ n,aZ d] (aQ (Rat.divInt n d)):=by
 refine aX Tryz.func258 ae ae ae ae ae ak ?_;obtain⟨p1,p2⟩:=Te (n:=n) hd;have Q5:Int.gcd n d≠0:=λh0=>by have:=(OL.1 h0).2;omega
 have hgS:Sm ((Int.gcd n d:Nat):Int):=dG (sU (show(((Int.gcd n d:Nat):Int)).natAbs≤d.natAbs from Nat.gcd_le_right _ af)) Iv;refine rr ae (aj (rb (rc ae ae (E3 d) (re ae (ax ae (λh=>?_) (λ_=>aC (ai ?_)))))))
 ·have h:d=1:=bc h;subst h;obtain⟨c1,c2⟩:=MB (n:=n) ak (Int.gcd_one_right ..);exact rr ae (aF (bW (aL ar ae (au.of_eq (Iu c1 c2)))))
 refine rb (rc ae ae (abb n d hn Iv) (re ae (aj (rb (rc ae ae (E3 _) (re ae (ax ae (λh=>?_) (λ_=>aC (ai ?_)))))))))
 ·have h:((Int.gcd n d:Nat):Int)=1:=bc h;obtain⟨c1,c2⟩:=MB hd (Int.ofNat.inj h);exact rr ae (aF (bW (aL ar ae (au.of_eq (Iu c1 c2)))))
 refine rb (rc ae ae (wP n _ af hn hgS) (re ae (rb (rc ae ae (wP d _ af Iv hgS) (re ae (rr ae (aF (aL ar ae (au.of_eq (Iu p1 p2))))))))))
def alX(n d:Int)(hd:0<d)(hn:Sm n)(Iv:Sm d):aG Tryz.prog 205 [aZ n,aZ d] (.t [(true,av .q (Rat.divInt n d)),(false,[.I .i64 0])]):=by
 refine aX Tryz.func205 ae ae ae ae ae ak ?_;refine rr ae (aj (rb (rc ae ae (z9 d) (re ae (ax ae (λh=>?_) (λ_=>aC (ai ?_)))))))
 ·exfalso;have h:cH d=0:=eq_of_beq h;have:=uu.1 h;omega
 refine aj (rb (rc ae ae (z9 d) (re ae (ax ae (λh=>?_) (λ_=>aC (ai ?_))))))
 ·exfalso;have h:cH d<0:=bc h;have:=abd.1 h;omega
 exact rb (rc ae ae (MC n d hd hn Iv) (re ae (aF (aL ar ae (au.refl _)))))
def den_pos(a:Rat):0<(a.den:Int):=by have:=a.den_nz;omega
def abf(a:Rat)(ha:Sm a.num):aG Tryz.prog 77 [aQ a] (aQ (-a)):=by refine aX Tryz.func77 ae ae ae ae ae ak ?_;refine rr ae (rb (rc ae ae (Le a.num ha) (re ae (aF (aL ar ae (au.of_eq (Iu ae ae)))))))
def Iw(q:Rat):aG Tryz.prog 148 [aQ q] (cI (cH q.num)):=by refine aX Tryz.func148 ae ae ae ae ae ak ?_;exact rr ae (rb (rc ae ae (z9 q.num) (re ae (aF (aL ar ae (au.refl _))))))
def alY(n:Int):aG Tryz.prog 279 [aZ n] (aQ (n:Rat)):=by refine aX Tryz.func279 ae ae ae ae ae ak ?_;exact rr ae (rb (rc ae ae (oH 1 ak ak) (re ae (aF (aL ar ae (au.of_eq ae))))))
def ME(n:Int)(h0: -9223372036854775808≤n)(h1:n≤9223372036854775807):aG Tryz.prog 247 [cI n] (aQ (n:Rat)):=by refine aX Tryz.func247 ae ae ae ae ae ak ?_;exact rr ae (rb (rc ae ae (oH n h0 h1) (rc ae ae (alY n) (re ae (aF (aL ar ae (au.refl _)))))))
def Tf(a:Rat)(h0:a.num≠0)(hn:Sm a.num)(hd:Sm (a.den:Int)):aG Tryz.prog 252 [aQ a] (.t [(true,av .q a⁻¹),(false,[.I .i64 0])]):=by
 refine aX Tryz.func252 ae ae ae ae ae ak ?_;have hp:=den_pos a;have oL:Int.gcd (a.den:Int) a.num=1:=by have:=a.reduced;rw[Int.gcd_comm];exact this
 refine rr ae (aj (rb (rc ae ae (z9 a.num) (re ae (aK (rr ae (ax ae (λh=>?_) (λh=>?_))))))))
 ·exfalso;have h:cH a.num=0:=eq_of_beq h;exact h0 (uu.1 h)
 refine rr ae (ax ae (λh=>?_) (λh=>?_))
 ·have h:cH a.num= -1:=eq_of_beq h;have h:a.num<0:=abd.1 af;have e:(a⁻¹).num= -(a.den:Int)∧(((a⁻¹).den:Nat):Int)= -a.num:=by
   rw[Rat.inv_def];have:=Hn (a.den:Int) a.num h0;rw[aw h,oL]at this;rw[this.1,this.2];constructor
   ·rw[show-(((1:Nat):Int))= -1 from ae,Dj,zg]
   ·rw[show-(((1:Nat):Int))= -1 from ae,Dj,zg]
  refine rb (rc ae ae (Le (a.den:Int) hd) (rc ae ae (Le a.num hn) (re ae (aF ?_))));repeat(first|refine bW ?_|refine fC ?_|refine ix ?_)
  refine aL ar ae (au.of_eq ?_);show AV.t [(true,[C.B (bN (-(a.den:Int))),C.S aE (cY (-(a.den:Int))),C.B (bN (-a.num)),C.S aE (cY (-a.num))]),(false,[C.I .i64 0])]=_;rw[←e.1,←e.2];rfl
 ·have h:¬cH a.num= -1:=kN h;have h:0<a.num:=by
   unfold cH at h;split at h
   ·omega
   ·omega
  have e:(a⁻¹).num=(a.den:Int)∧(((a⁻¹).den:Nat):Int)=a.num:=by rw[Rat.inv_def];exact MB h oL
  refine aC (a7 (ai ?_));refine rr ae (aF (aL ar ae (au.of_eq ?_)));show AV.t [(true,[C.B (bN (a.den:Int)),C.S aE (cY (a.den:Int)),C.B (bN a.num),C.S aE (cY a.num)]),(false,[C.I .i64 0])]=_;rw[←e.1,←e.2];rfl
def alZ{k:Nat}(a b:Rat)(ha:QS k a)(hb:QS k b)(hk:k≤100000000000):aG Tryz.prog 280 [aQ a,aQ b] (aQ (a+b)):=by
 refine aX Tryz.func280 ae ae ae ae ae ak ?_;have m1:=ha.n.mul hb.d;have m2:=hb.n.mul ha.d;have m3:=ha.d.mul hb.d;have hs:=m1.add m2;have Ix:=ha.n.sm af;have E4:=ha.d.sm af;have Iy:=hb.n.sm af;have E5:=hb.d.sm af;have hd:=Ba (den_pos a) (den_pos b);have e:Rat.divInt (a.num*(b.den:Int)+b.num*(a.den:Int)) ((a.den:Int)*(b.den:Int))=a+b:=by have h1:=den_pos a;have h2:=den_pos b;rw[←VZ _ _ af af,oW,oW]
 rw[←e];refine rr ae (rb (rl .z [a.num,(b.den:Int)] ae ae (rc ae ae (Cp _ _ Ix E5) (rl .z [b.num,(a.den:Int)] ae ae (rc ae ae (Cp _ _ Iy E4) (rc ae ae (Ad _ _ (m1.sm af) (m2.sm af)) (re ae ?_)))))));exact rb (rl .z [(a.den:Int),(b.den:Int)] ae ae (rc ae ae (Cp _ _ E4 E5) (rc ae ae (MC _ _ hd (hs.sm af) (m3.sm af)) (re ae (aF (aL ar ae (au.refl _)))))))
def abg{a b c d:Int}(h:Int.gcd a b=1)(h1:c∣a)(h2:d∣b):Int.gcd c d=1:=by have h3:((Int.gcd c d:Nat):Int)∣((Int.gcd a b:Nat):Int):=Int.dvd_coe_gcd (J3 (Int.gcd_dvd_left ..) h1) (J3 (V9 ..) h2);rw[h]at h3;have:=Int.ofNat_dvd.1 h3;exact Nat.dvd_one.1 this
def MF{n d:Int}(hd:0<d):(Rat.divInt n d).num∣n∧(((Rat.divInt n d).den:Nat):Int)∣d:=by obtain⟨h1,h2⟩:=Te (n:=n) hd;rw[h1,h2];exact⟨⟨_,(Int.ediv_mul_cancel (Int.gcd_dvd_left ..)).symm⟩,⟨_,(Int.ediv_mul_cancel (V9 ..)).symm⟩⟩
def aU.dvd{n:Nat}{a b:Int}(h:aU n a)(hd:b∣a)(h0:a≠0):aU n b:=by have:=rf af (F3.2 hd);unfold aU at*;omega
def Iz{k:Nat}{n d:Int}(hd:0<d)(hn:aU k n)(hk:aU k d):QS k (Rat.divInt n d):=by
 obtain⟨h1,h2⟩:=MF (n:=n) hd;refine⟨?_,hk.dvd h2 af⟩;by_cases e:n=0
 ·subst e;rw[Rat.zero_divInt];exact aU.zero _
 ·exact hn.dvd h1 e
def QS.add{k:Nat}{a b:Rat}(ha:QS k a)(hb:QS k b):QS (2*k+1) (a+b):=by
 have h1:=den_pos a;have h2:=den_pos b;have e:Rat.divInt (a.num*(b.den:Int)+b.num*(a.den:Int)) ((a.den:Int)*(b.den:Int))=a+b:=by rw[←VZ _ _ af af,oW,oW]
 rw[←e];exact Iz (Ba h1 h2) (((ha.n.mul hb.d).add (hb.n.mul ha.d)).le af) ((ha.d.mul hb.d).le af)
def QS.mul{k:Nat}{a b:Rat}(ha:QS k a)(hb:QS k b):QS (2*k) (a*b):=by
 have h1:=den_pos a;have h2:=den_pos b;have e:Rat.divInt (a.num*b.num) ((a.den:Int)*(b.den:Int))=a*b:=by rw[←F4,oW,oW]
 rw[←e];exact Iz (Ba h1 h2) ((ha.n.mul hb.n).le af) ((ha.d.mul hb.d).le af)
def QS.neg{k:Nat}{a:Rat}(ha:QS k a):QS k (-a):=⟨ha.n.neg,ha.d⟩
def Tg{k:Nat}(a b:Rat)(ha:QS k a)(hb:QS k b)(hk:k≤100000000000):aG Tryz.prog 246 [aQ a,aQ b] (aQ (a*b)):=by
 refine aX Tryz.func246 ae ae ae ae ae ak ?_;have Ix:=ha.n.sm af;have E4:=ha.d.sm af;have Iy:=hb.n.sm af;have E5:=hb.d.sm af;have hL:=Iz (n:=a.num) (den_pos b) ha.n hb.d;have hR:=Iz (n:=b.num) (den_pos a) hb.n ha.d;obtain⟨l1,l2⟩:=MF (n:=a.num) (den_pos b);obtain⟨r1,r2⟩:=MF (n:=b.num) (den_pos a);have Em:=MC a.num (b.den:Int) (den_pos b) Ix E5;have hq2:=MC b.num (a.den:Int) (den_pos a) Iy E4;have e:Rat.divInt a.num (b.den:Int)*Rat.divInt b.num (a.den:Int)=a*b:=by rw[F4,fc (b.den:Int),←F4,oW,oW]
 have ca:Int.gcd a.num (a.den:Int)=1:=a.reduced;have cb:Int.gcd b.num (b.den:Int)=1:=b.reduced;generalize Rat.divInt a.num (b.den:Int)=L at*;generalize Rat.divInt b.num (a.den:Int)=R at*;have oL:Int.gcd (L.num*R.num) ((L.den:Int)*(R.den:Int))=1:=by have c1:Int.gcd L.num (L.den:Int)=1:=L.reduced;have c2:Int.gcd R.num (R.den:Int)=1:=R.reduced;have c3:=abg ca l1 r2;have c4:=abg cb r1 l2;have n1:Nat.Coprime L.num.natAbs L.den:=c1;have n2:Nat.Coprime R.num.natAbs R.den:=c2;have n3:Nat.Coprime L.num.natAbs R.den:=c3;have n4:Nat.Coprime R.num.natAbs L.den:=c4;show Nat.gcd (L.num*R.num).natAbs ((L.den:Int)*(R.den:Int)).natAbs=1;rw[sj,sj];exact Nat.Coprime.mul_left (Nat.Coprime.mul_right n1 n3) (Nat.Coprime.mul_right n4 n2)
 obtain⟨c1,c2⟩:=MB (Ba (den_pos L) (den_pos R)) oL;rw[←F4,oW,oW,e]at c1 c2;refine rr ae (rb (rc ae ae Em (re ae (rb (rc ae ae hq2 (re ae ?_))))));refine rb (rl .z [L.num,R.num] ae ae (rc ae ae (Cp _ _ (hL.n.sm af) (hR.n.sm af)) (rl .z [(L.den:Int),(R.den:Int)] ae ae (rc ae ae (Cp _ _ (hL.d.sm af) (hR.d.sm af)) (re ae (aF (aL ar ae (au.of_eq (Iu c1 c2)))))))))
def iz(a b:Rat):Int:=if a<b then-1 else if b<a then 1 else 0
def abi{a b:Rat}(h:cH a.num<cH b.num):a<b:=by
 rw[Rat.lt_iff];have Th:=den_pos a;have hdb:=den_pos b;have h1:(a.num<0∧0≤b.num)∨(a.num=0∧0<b.num):=by unfold cH at h;split at h<;>(try split at h)<;>(try split at h)<;>omega
 rcases h1 with⟨h1,h2⟩|⟨h1,h2⟩
 ·have:=Int.mul_neg_of_neg_of_pos h1 hdb;have:=j4 h2 (A8 Th);omega
 ·rw[h1,kJ];exact Ba h2 Th
def abk{k:Nat}(a b:Rat)(ha:QS k a)(hb:QS k b)(hk:k≤100000000000):aG Tryz.prog 79 [aQ a,aQ b] (cI (iz a b)):=by
 refine aX Tryz.func79 ae ae ae ae ae ak ?_;have Ix:=ha.n.sm af;have E4:=ha.d.sm af;have Iy:=hb.n.sm af;have E5:=hb.d.sm af;have Th:=den_pos a;have hdb:=den_pos b;have e:iz a b=dn (a.num*(b.den:Int)) (b.num*(a.den:Int)):=by unfold iz dn;simp only[Rat.lt_iff]
 refine rr ae (aj (rb (rc ae ae (Iw a) (rc ae ae (Iw b) (re ae (rr ae (ax ae (λh=>?_) (λh=>aC (ai ?_)))))))))
 ·have h:cH a.num≠cH b.num:=qA h;refine aj (rr ae (ax ae (λh2=>?_) (λh2=>aC (ai ?_))))
  ·have h2:cH a.num<cH b.num:=bc h2;refine rr ae (aF (bW (bW (aL ar ae (au.of_eq (az cI ?_))))));rw[iz,aw (abi h2)]
  ·have h2:¬cH a.num<cH b.num:=bC h2;refine rr ae (aF (bW (aL ar ae (au.of_eq (az cI ?_)))));have h3:b<a:=abi af;have h4:¬a<b:=λh4=>by rw[Rat.lt_iff]at h3 h4;omega
   rw[iz,aq h4,aw h3]
 ·rw[e];exact rb (rl .z [a.num,(b.den:Int)] ae ae (rc ae ae (Cp _ _ Ix E5) (rl .z [b.num,(a.den:Int)] ae ae (rc ae ae (Cp _ _ Iy E4) (rc ae ae (Li _ _) (re ae (aF (aL ar ae (au.refl _)))))))))
def abl(a:List Int){X:Nat}(ha:∀i,(a.getD i 0).natAbs≤X):∀i,nB a i≤i*X
 |0=>by simp[nB]
 |i+1=>by have:=abl a ha i;have:=ha i;rw[nB,fP];omega
def Ti(a:List Int){w:Nat}(ha:∀i,aU w (a.getD i 0)){i:Nat}(hi:i≤13):aU (w+1) ((nB a i:Nat):Int):=by unfold aU at*;have h1:=abl a (λi=>O2 (ha i)) i;have h2:=dY (4294967296^w) hi;have h3:=mh (n:=w) (show 0<4294967296 by decide);rw[oV,iX];omega
set_option maxHeartbeats 2000000 in
def abm(a:List Int)(w:Nat)(hw:w≤1000)(la:a.length≤13)(ha:∀i,aU w (a.getD i 0)):aG Tryz.prog 33 [cS .z a] (aZ (ff a:Nat)):=by
 refine aX Tryz.func33 ae ae ae ae ae ak ?_;refine rr ae (rb (rc ae ae (oH 0 ak ak) (re ae (aj (rr ae ?_)))));refine aK (bA (α:=Nat) (λi=>⟨[(0,cS .z a),(2,.c (.P 0 0)),(3,.c (.P 1001000 0)),(11,cS .z a),(12,cI a.length),(13,cI i)],[(0,.box 44 0 [.B false,.V (.slice none 0 0)]),(1001000,.box 44 0 (av .z ((nB a i:Nat):Int)))],3,[]⟩) (λi=>i≤a.length) (λi=>a.length-i) 0 (bK _) (wk ⟨sR ae,sR ae,sR ae,sR ae,sR ae,sR ae,ah⟩ ⟨bE ae ae,bE ae ae,ah⟩) ?_);intro i hi;refine rr ae (aj ?_);refine ax ae (λh=>?_) (λh=>?_)
 ·have h:i<a.length:=by simpa using h
  have hai:Sm (a.getD i 0):=(ha i).sm af;have abn:Sm (((a.getD i 0).natAbs:Nat):Int):=aU.sm (n:=w) (by have:=ha i;unfold aU at*;rwa[oV]) af;have rV:Sm ((nB a i:Nat):Int):=(Ti a ha (by omega:i≤13)).sm af;refine aC (ai (aj (aK (rr ae (aj (rb (rc ae ae (z9 (a.getD (i:Int).toNat 0)) (re ae ?_))))))));rw[bw];refine ax ae (λh2=>?_) (λh2=>?_)
  ·have h2:a.getD i 0<0:=ajl gR;have en:(((a.getD i 0).natAbs:Nat):Int)= -(a.getD i 0):=af;have pG:=Ad ((nB a i:Nat):Int) (((a.getD i 0).natAbs:Nat):Int) rV abn;rw[en]at pG;refine cG (rc ae ae (Le (a.getD i 0) hai) (re ae (ai (cG (rc ae ae pG (re ae ?_))))));refine a7 (ai (rt ae (a8 (i+1) h pQ (wk ⟨sR ae,sR ae,sR ae,sR ae,sR ae,sE ae ?_,ah⟩ ⟨bE ae ae,bE ae ?_,ah⟩))))
   ·exact az cI af
   ·rw[←en];rfl
  ·have h2:¬a.getD i 0<0:=λe=>by rw[ajm e]at h2;cases h2
   have en:(((a.getD i 0).natAbs:Nat):Int)=a.getD i 0:=af;have pG:=Ad ((nB a i:Nat):Int) (((a.getD i 0).natAbs:Nat):Int) rV abn;rw[en]at pG;refine aC (ai (cG (rc ae ae pG (re ae ?_))));refine a7 (ai (rt ae (a8 (i+1) h pQ (wk ⟨sR ae,sR ae,sR ae,sR ae,sR ae,sE ae ?_,ah⟩ ⟨bE ae ae,bE ae ?_,ah⟩))))
   ·exact az cI af
   ·rw[←en];rfl
 ·have h:¬i<a.length:=by simpa using h
  have hi:i=a.length:=af;subst hi;have rV:Sm ((nB a a.length:Nat):Int):=(Ti a ha la).sm af;refine bp (bu (br (bq (ai (rb (rc ae ae (oH 2 ak ak) (re ae (aj (rr ae ?_)))))))));refine aK (bA (α:=Nat) (λk=>⟨[(0,cS .z a),(2,.c (.P 0 0)),(3,.c (.P 1001000 0)),(6,.c (.P 4001000 0)),(7,cI (if k=0 then(a.length:Int)-1 else(a.length:Int)-1-4096))],[(0,.box 44 0 [.B false,.V (.slice none 0 0)]),(1001000,.box 44 0 (av .z ((if k=0 then nB a a.length else ff a:Nat):Int))),(4001000,.box 44 0 (av .z 2))],6,[]⟩) (λk=>k≤1) (λk=>1-k) 0 (bK _) (wk ⟨sR ae,sR ae,sR ae,sR ae,sR ae,ah⟩ ⟨bE ae ae,bE ae ae,bE ae ae,ah⟩) ?_);intro k hk;refine aj (rr ae ?_);refine ax ae (λh3=>?_) (λh3=>?_)
  ·have h3:(if k=0 then(a.length:Int)-1 else(a.length:Int)-1-4096)>0:=by simpa using h3
   have gM:k=0:=by refine Decidable.by_contra (λe=>?_);rw[aq e]at h3;omega
   subst gM;rw[aw ae]at h3;obtain⟨n,hn⟩:∃n:Nat,a.length=n+1:=⟨a.length-1,by omega⟩;refine aC (ai (aj (aK ?_)));have hmul:=tY ((nB a a.length:Nat):Int) ((2^n:Nat):Int) rV (Sm.of (by have:2^n≤2^12:=jP ak af;rw[oV];exact zb this ak));have Ic:aG Tryz.prog 104 [aZ 2,.c (.I .i64 (if(4096:Int)<n then 4096 else n))] (.t [(true,av .z ((2^n:Nat):Int)),(false,[.I .i64 0])]):=by rw[aq af];exact ai0 n af
   refine dv (st':=⟨[(0,cS .z a),(2,.c (.P 0 0)),(3,.c (.P 1001000 0)),(6,.c (.P 4001000 0)),(7,cI n)],[(0,.box 44 0 [.B false,.V (.slice none 0 0)]),(1001000,.box 44 0 (av .z ((nB a a.length:Nat):Int))),(4001000,.box 44 0 (av .z 2))],7,[]⟩) (wk ⟨sR ae,sR ae,sR ae,sR ae,sE ae ?_,ah⟩ ⟨bE ae ae,bE ae ae,bE ae ae,ah⟩) ?_
   ·exact az cI (by rw[aw ae,hn];omega)
   ·refine rb (rc ae ae Ic (re ae (cG (rc ae ae hmul (re ae (a7 (ai (rt ae (a8 1 (bF _) ak (wk ⟨sR ae,sR ae,sR ae,sR ae,sE ae ?_,ah⟩ ⟨bE ae ae,bE ae ?_,bE ae ae,ah⟩))))))))))
    ·exact az cI (by rw[aq ak,hn];omega)
    ·rw[aq ak,ff,hn,jx];rfl
  ·have h3:¬(if k=0 then(a.length:Int)-1 else(a.length:Int)-1-4096)>0:=by simpa using h3
   refine bp (bu (br (bq (ai (rr ae (aF (aL ar ae (au.of_eq ?_))))))));refine az (λx:Nat=>aZ (x:Int)) ?_;split
   ·rename_i e;rw[aw e]at h3;rw[ff,show a.length-1=0 by omega,xI,kT]
   ·rfl
end Go.El
namespace Go.El
def sq(f:Nat→Rat):Nat→Rat
 |0=>0
 |k+1=>sq f k+f k
def vC{f g:Nat→Rat}:∀{k:Nat},(∀i,i<k→f i=g i)→sq f k=sq g k
 |0,_=>rfl
 |k+1,h=>by rw[sq,sq,vC (λi hi=>h i af),h k af]
def MG{f:Nat→Rat}{k:Nat}(h:∀i,i<k→f i=0):sq f k=0:=by
 induction k with
 |zero=>rfl
 |succ k ih=>rw[sq,ih (λi hi=>h i af),h k af,sk]
def Tj(f g:Nat→Rat):∀k,sq (λi=>f i+g i) k=sq f k+sq g k
 |0=>(sk 0).symm
 |k+1=>by simp only[sq,Tj f g k];grind
def MH(c:Rat)(f:Nat→Rat):∀k,sq (λi=>c*f i) k=c*sq f k
 |0=>by simp only[sq];grind
 |k+1=>by simp only[sq,MH c f k];grind
def al1(c:Rat)(f:Nat→Rat)(k:Nat):sq (λi=>f i*c) k=sq f k*c:=by rw[O7,←MH];exact vC (λi _=>O7 _ _)
def abo(f:Nat→Rat):∀k,sq f (k+1)=f 0+sq (λi=>f (i+1)) k
 |0=>by simp only[sq];grind
 |k+1=>by rw[sq,abo f k,sq];grind
def abp(f:Nat→Rat):∀k,sq f k=sq (λi=>f (k-1-i)) k
 |0=>rfl
 |k+1=>by rw[sq,abp f k,abo (λi=>f (k+1-1-i))];have:sq (λi=>f (k+1-1-(i+1))) k=sq (λi=>f (k-1-i)) k:=vC (λi _=>by congr 1;omega);rw[this,show k+1-1-0=k by omega];grind
def abq(F:Nat→Nat→Rat):∀n,sq (λi=>sq (λj=>F i j) (i+1)) n=sq (λj=>sq (λk=>F (j+k) j) (n-j)) n
 |0=>rfl
 |n+1=>by
  rw[sq,abq F n];have h1:sq (λj=>sq (λk=>F (j+k) j) (n+1-j)) n=sq (λj=>sq (λk=>F (j+k) j) (n-j)+F n j) n:=by refine vC (λj hj=>?_);rw[show n+1-j=(n-j)+1 by omega,sq,show j+(n-j)=n by omega]
  rw[show sq (λj=>sq (λk=>F (j+k) j) (n+1-j)) (n+1)=sq (λj=>sq (λk=>F (j+k) j) (n+1-j)) n+sq (λk=>F (n+k) n) (n+1-n)from ae,h1,Tj];rw[show n+1-n=1 by omega,show sq (λj=>F n j) (n+1)=sq (λj=>F n j) n+F n n from ae,show sq (λk=>F (n+k) n) 1=0+F (n+0) n from ae,j6];have e9:sq (λj=>F n j) n=sq (F n) n:=rfl;grind
def MI{f:Nat→Rat}{a:Nat}:∀{n:Nat},a<n→(∀i,i<n→i≠a→f i=0)→sq f n=f a
 |0,h,_=>by omega
 |n+1,h,hz=>by
  rw[sq];by_cases e:a=n
  ·subst e;rw[MG (λi hi=>hz i af af),Gf]
  ·rw[MI (n:=n) af (λi hi=>hz i af),hz n af af,sk]
def cvq(A B:Nat→Rat)(n:Nat):Rat:=sq (λi=>A i*B (n-i)) (n+1)
structure Rx where
 v:Nat→Rat
 fin:∃n,∀i,n≤i→v i=0
namespace Rx
instance:CoeFun Rx (λ_=>Nat→Rat):=⟨λA=>A.v⟩
def ext{A B:Rx}(h:∀i,A i=B i):A=B:=by cases A;cases B;have e:=funext h;simp only at e;subst e;rfl
def abt{A B:Nat→Rat}{m n:Nat}(hA:∀i,m≤i→A i=0)(hB:∀i,n≤i→B i=0):∀i,m+n≤i+1→cvq A B i=0:=λi hi=>MG λj hj=>by
 by_cases e:m≤j
 ·rw[hA j e,wo]
 ·rw[hB (i-j) af,jG]
instance:Add Rx:=⟨λA B=>⟨λi=>A i+B i,by obtain⟨m,hm⟩:=A.2;obtain⟨n,hn⟩:=B.2;exact⟨m+n,λi hi=>by show A.v i+B.v i=0;rw[hm i af,hn i af,sk]⟩⟩⟩
instance:Mul Rx:=⟨λA B=>⟨cvq A.v B.v,by obtain⟨m,hm⟩:=A.2;obtain⟨n,hn⟩:=B.2;exact⟨m+n,λi hi=>abt hm hn i af⟩⟩⟩
instance:Neg Rx:=⟨λA=>⟨λi=> -A i,by obtain⟨m,hm⟩:=A.2;exact⟨m,λi hi=>by show-A.v i=0;rw[hm i hi,Rat.neg_zero]⟩⟩⟩
def K(c:Rat):Rx:=⟨λi=>if i=0 then c else 0,1,λi hi=>aq af⟩
instance:_root_.Sub Rx:=⟨λx y=>x+ -y⟩
instance:OfNat Rx 0:=⟨⟨λ_=>0,0,λ_ _=>rfl⟩⟩
instance:OfNat Rx 1:=⟨K 1⟩
def fJ(A B:Rx)(i:Nat):(A+B) i=A i+B i:=rfl
def Lv(A:Rx)(i:Nat):(-A) i= -A i:=rfl
def yn(A B:Rx)(i:Nat):(A-B) i=A i-B i:=(OQ _ _).symm
def lR(i:Nat):(0:Rx) i=0:=rfl
def gN(A B:Rx)(n:Nat):(A*B) n=sq (λi=>A i*B (n-i)) (n+1):=rfl
def qQ(c:Rat)(i:Nat):K c i=if i=0 then c else 0:=rfl
def iA(c:Rat)(A:Rx)(i:Nat):(K c*A) i=c*A i:=by rw[gN,MI (a:=0) af (λj _ hj=>by rw[qQ,aq hj,wo])];rfl
def add_comm(x y:Rx):x+y=y+x:=ext λi=>Rat.add_comm _ _
def add_assoc(x y z:Rx):x+y+z=x+(y+z):=ext λi=>Rat.add_assoc _ _ _
def mul_comm(A B:Rx):A*B=B*A:=by
 refine ext λn=>?_
 rw[gN,gN,abp];refine vC (λi hi=>?_);rw[O7,show n-(n+1-1-i)=i by omega];rfl
def mul_assoc(A B C:Rx):A*B*C=A*(B*C):=by
 refine ext λn=>?_
 rw[gN,gN];have h1:sq (λi=>(A*B) i*C (n-i)) (n+1)=sq (λi=>sq (λj=>A j*B (i-j)*C (n-i)) (i+1)) (n+1):=vC (λi _=>by rw[gN,al1]);rw[h1,abq (λi j=>A j*B (i-j)*C (n-i))];refine vC (λj hj=>?_);rw[gN,←MH,show n+1-j=n-j+1 by omega];refine vC (λk hk=>?_);rw[uL,show j+k-j=k by omega,show n-(j+k)=n-j-k by omega]
def mul_add(A B C:Rx):A*(B+C)=A*B+A*C:=by
 refine ext λn=>?_
 rw[fJ,gN,gN,gN,←Tj];exact vC (λi _=>by rw[fJ,Rat.mul_add])
def add_mul(x y z:Rx):(x+y)*z=x*z+y*z:=by rw[mul_comm,mul_add,mul_comm z x,mul_comm z y]
def zero_add(x:Rx):0+x=x:=ext λi=>Gf _
def add_zero(x:Rx):x+0=x:=by rw[add_comm,zero_add]
def one_mul(x:Rx):1*x=x:=ext λi=>(iA 1 x i).trans (zm _)
def mul_one(x:Rx):x*1=x:=by rw[mul_comm,one_mul]
def zero_mul(x:Rx):0*x=0:=ext λn=>by rw[gN];exact MG λi _=>by rw[lR,wo]
def mul_zero(x:Rx):x*0=0:=by rw[mul_comm,zero_mul]
def add_neg(x:Rx):x+ -x=0:=ext λi=>Rat.add_neg_cancel _
def neg_add(x:Rx): -x+x=0:=by rw[add_comm,add_neg]
def sub_def(x y:Rx):x-y=x+ -y:=rfl
instance:Std.Associative (α:=Rx) (·+·):=⟨add_assoc⟩
instance:Std.Commutative (α:=Rx) (·+·):=⟨add_comm⟩
instance:Std.Associative (α:=Rx) (·*·):=⟨mul_assoc⟩
instance:Std.Commutative (α:=Rx) (·*·):=⟨mul_comm⟩
def add_left_cancel{x y z:Rx}(h:x+y=x+z):y=z:=by have:=az (-x+·) h;simpa only[←add_assoc,neg_add,zero_add]using this
def lT(x y:Rx):x-y+y=x:=by rw[sub_def,add_assoc,neg_add,add_zero]
def yt(x y:Rx):x+y-y=x:=by rw[sub_def,add_assoc,add_neg,add_zero]
def LN{x y z:Rx}(h:x+y=z):x=z-y:=by rw[←h,yt]
def sub_eq{x y z:Rx}(h:x=z+y):x-y=z:=by rw[h,yt]
def sub_self(x:Rx):x-x=0:=add_neg x
def sub_zero(x:Rx):x-0=x:=sub_eq (add_zero x).symm
def Ev{x y:Rx}(h:x-y=0):x=y:=by rw[←lT x y,h,zero_add]
def sub_mul(x y z:Rx):(x-y)*z=x*z-y*z:=LN (by rw[←add_mul,lT])
def mul_sub(x y z:Rx):x*(y-z)=x*y-x*z:=by rw[mul_comm,sub_mul,mul_comm y,mul_comm z]
def neg_mul(x y:Rx): -x*y= -(x*y):=add_left_cancel (x:=x*y) (by rw[←add_mul,add_neg,add_neg,zero_mul])
def neg_sub(x y:Rx): -(x-y)=y-x:=add_left_cancel (x:=x-y) (by rw[add_neg,sub_def,sub_def];have:x+ -y+(y+ -x)=(x+ -x)+(-y+y):=kI;rw[this,add_neg,neg_add,add_zero])
def RV(x y z w:Rx):(x+y)-(z+w)=(x-z)+(y-w):=sub_eq (by have:x-z+(y-w)+(z+w)=(x-z+z)+(y-w+w):=kI;rw[this,lT,lT])
instance:Dvd (Rx):=⟨λa b=>∃w,b=w*a⟩
def dvd_refl(a:Rx):a∣a:=⟨1,(one_mul a).symm⟩
def dvd_zero(a:Rx):a∣0:=⟨0,(zero_mul a).symm⟩
def dvd_trans{a b c:Rx}(h:a∣b)(k:b∣c):a∣c:=by obtain⟨w,rfl⟩:=h;obtain⟨v,rfl⟩:=k;exact⟨v*w,(mul_assoc v w a).symm⟩
def dvd_mul_left(a b:Rx):a∣b*a:=⟨b,ae⟩
def dvd_mul_right(a b:Rx):a∣a*b:=⟨b,mul_comm a b⟩
def fg{a b:Rx}(h:a∣b)(c:Rx):a∣c*b:=dvd_trans h (dvd_mul_left b c)
def qH{a b:Rx}(h:a∣b)(c:Rx):a∣b*c:=dvd_trans h (dvd_mul_right b c)
def dvd_add{a b c:Rx}(h:a∣b)(k:a∣c):a∣b+c:=by obtain⟨w,rfl⟩:=h;obtain⟨v,rfl⟩:=k;exact⟨w+v,(add_mul w v a).symm⟩
def dvd_neg{a b:Rx}(h:a∣b):a∣-b:=by obtain⟨w,rfl⟩:=h;exact⟨-w,(neg_mul w a).symm⟩
def dvd_sub{a b c:Rx}(h:a∣b)(k:a∣c):a∣b-c:=dvd_add h (dvd_neg k)
def wV{a b c:Rx}(h:a∣b+c)(k:a∣b):a∣c:=by have:=dvd_sub h k;rwa[add_comm b c,yt]at this
def Ew{a b c:Rx}(h:a∣b-c)(k:a∣c):a∣b:=by have:=dvd_add h k;rwa[lT]at this
def nE{a b c:Rx}(h:a∣b-c):a∣c-b:=by rw[←neg_sub];exact dvd_neg h
def pk(a:Rx):Nat→Rx
 |0=>1
 |n+1=>pk a n*a
def B3(a:Rx):pk a 1=a:=one_mul a
def wX(a:Rx)(m:Nat):∀n,pk a (m+n)=pk a m*pk a n
 |0=>(mul_one _).symm
 |n+1=>by rw[←tA,pk,pk,wX a m n,mul_assoc]
def B4(a:Rx)(m:Nat):∀n,pk a (m*n)=pk (pk a m) n
 |0=>rfl
 |n+1=>by rw[Gd,wX,pk,B4 a m n]
def wY(a b:Rx):∀n,pk (a*b) n=pk a n*pk b n
 |0=>(one_mul 1).symm
 |n+1=>by rw[pk,pk,pk,wY a b n];ac_rfl
def yu:∀n,pk (1:Rx) n=1
 |0=>rfl
 |n+1=>by rw[pk,yu n,one_mul]
def X(k:Nat):Rx:=⟨λi=>if i=k then 1 else 0,k+1,λi hi=>aq af⟩
def Cq(k i:Nat):X k i=if i=k then 1 else 0:=rfl
def pt(k:Nat)(A:Rx)(i:Nat):(X k*A) i=if k≤i then A (i-k)else 0:=by
 rw[gN];by_cases h:k≤i
 ·rw[aw h,MI (a:=k) af (λj _ hj=>by rw[Cq,aq hj,wo]),Cq,aw ae,zm]
 ·rw[aq h];exact MG (λj hj=>by rw[Cq,aq af,wo])
def al2:X 0=1:=rfl
def qE(a b:Rat):K (a+b)=K a+K b:=ext λi=>by rw[fJ,qQ,qQ,qQ];split<;>grind
def gA(a b:Rat):K (a*b)=K a*K b:=ext λi=>by rw[iA,qQ,qQ];split<;>grind
def mA:K 0=0:=ext λi=>by rw[qQ,lR];split<;>rfl
def mD:K 1=1:=rfl
def Al(a:Rat):K (-a)= -K a:=add_left_cancel (x:=K a) (by rw[←qE,Rat.add_neg_cancel,mA,add_neg])
def Ey(a b:Rat):K (a-b)=K a-K b:=by rw[OQ,qE,Al,sub_def]
def LQ{a b:Rat}(h:K a=K b):a=b:=az (λA:Rx=>A 0) h
def pC{c:Rat}(h:c≠0):K c⁻¹ *K c=1:=by rw[←gA,ou c h,mD]
def lx(a:List Rat):Rx:=⟨λi=>a.getD i 0,a.length,λi hi=>by rw[aY,ni hi];rfl⟩
def l5(a:List Rat)(i:Nat):lx a i=a.getD i 0:=rfl
def xi:lx []=0:=ext λi=>rfl
def abu(c:Rat):lx [c]=K c:=ext λi=>by
 cases i with
 |zero=>rfl
 |succ i=>rfl
def IA(c:Rat)(a:List Rat):lx (c::a)=K c+X 1*lx a:=ext λi=>by
 rw[fJ,pt];cases i with
 |zero=>rw[aq af];show c=K c 0+0;rw[qQ,aw ae,sk]
 |succ i=>rw[aw af];show a.getD i 0=K c (i+1)+a.getD i 0;rw[qQ,aq af,Gf]
def dp(a:List Rat):Prop:=a=[]∨a.getD (a.length-1) 0≠0
def IB:dp []:= .inl ae
def nK(a:List Rat){i:Nat}(h:a.length≤i):a.getD i 0=0:=by rw[aY,ni h];rfl
def dp.top{a:List Rat}(h:dp a){n:Nat}(hn:a.length=n+1):a.getD n 0≠0:=by
 rcases h with h|h
 ·subst h;simp at hn
 ·rwa[hn,jx]at h
def al3{a b:List Rat}(hl:a.length=b.length)(h:∀i,a.getD i 0=b.getD i 0):a=b:=by refine nP hl (λi h1 h2=>?_);have:=h i;rwa[aY,aY,ct h1,ct h2]at this
def MJ{a b:List Rat}(ha:dp a)(hb:dp b)(h:lx a=lx b):a=b:=by
 have hg:∀i,a.getD i 0=b.getD i 0:=λi=>az (λA:Rx=>A i) h
 refine al3 ?_ hg;rcases JV a.length b.length with e|e|e
 ·exact absurd ((hg (b.length-1)).symm.trans (nK a af)) (hb.top af)
 ·exact e
 ·exact absurd ((hg (a.length-1)).trans (nK b af)) (ha.top af)
def Tk(A:Nat→Rat):∀n,(∀i,n≤i→A i=0)→∃a:List Rat,dp a∧a.length≤n∧∀i,a.getD i 0=A i
 |0,h=>⟨[],IB,bF _,λi=>(h i (bK _)).symm⟩
 |n+1,h=>by
  by_cases e:A n=0
  ·obtain⟨a,h1,h2,h3⟩:=Tk A n (λi hi=>by
    by_cases e2:i=n
    ·rw[e2,e]
    ·exact h i af)
   exact⟨a,h1,by omega,h3⟩
  ·have hg:∀i,((List.range (n+1)).map A).getD i 0=A i:=λi=>by
    rw[aY,j3];by_cases e:i<n+1
    ·rw[ot e];rfl
    ·rw[ni cO];exact(h i af).symm
   refine⟨(List.range (n+1)).map A,.inr ?_,by simp,hg⟩;rw[hg];simpa using e
def kC(A:Rx):∃a,dp a∧lx a=A:=by obtain⟨n,hn⟩:=A.2;obtain⟨a,h1,_,h3⟩:=Tk A.v n hn;exact⟨a,h1,ext h3⟩
open Classical in
noncomputable def sz(A:Rx):Nat:=(Classical.choose (kC A)).length
def dV{a:List Rat}(ha:dp a):sz (lx a)=a.length:=by have h2:=xy (kC (lx a));rw[sz,MJ h2.1 ha h2.2]
def vD{n:Nat}{A:Rx}(h:∀i,n≤i→A i=0):sz A≤n:=by obtain⟨a,h1,h2,h3⟩:=Tk A.v n h;rw[←(ext h3:lx a=A),dV h1];exact h2
def oa{A:Rx}{i:Nat}(h:sz A≤i):A i=0:=by obtain⟨a,ha,rfl⟩:=kC A;rw[dV ha]at h;exact nK a h
def IC{A:Rx}{n:Nat}(h:sz A=n+1):A n≠0:=by obtain⟨a,ha,rfl⟩:=kC A;rw[dV ha]at h;exact ha.top h
def al4{A:Rx}{n:Nat}(h:A n≠0):n<sz A:=Nat.lt_of_not_le λe=>h (oa e)
def kQ:sz (0:Rx)=0:=Nat.le_zero.1 (vD λ_ _=>rfl)
def Ez(c:Rat):sz (K c)≤1:=vD λi hi=>by rw[qQ,aq af]
def R1{A:Rx}(h:sz A=0):A=0:=ext λi=>oa af
def eN{A:Rx}(h:A≠0):0<sz A:=by
 rcases wb (sz A)with e|e
 ·exact absurd (R1 e) h
 ·exact e
def R2(A B:Rx):sz (A+B)≤max (sz A) (sz B):=vD λi hi=>by rw[fJ,oa (A:=A) af,oa (A:=B) af,sk]
def R3(A:Rx):sz (-A)≤sz A:=vD λi hi=>by rw[Lv,oa hi];rfl
def HO(A B:Rx):sz (A-B)≤max (sz A) (sz B):=by have h1:=R2 A (-B);have h2:=R3 B;rw[sub_def];omega
def yp{A B:Rx}{m n:Nat}(hA:∀i,m<i→A i=0)(hB:∀i,n<i→B i=0):(A*B) (m+n)=A m*B n:=by
 rw[gN,MI (a:=m) af (λj h1 h2=>?_)]
 ·rw[show m+n-m=n by omega]
 ·by_cases e:m<j
  ·rw[hA j e,wo]
  ·rw[hB (m+n-j) af,jG]
def n6:(1:Rx)≠0:=λe=>by have:(1:Rx) 0=(0:Rx) 0:=se;exact absurd this ak
def eK{A B:Rx}(hA:A≠0)(hB:B≠0):sz (A*B)+1=sz A+sz B:=by
 have pa:=eN hA;have pb:=eN hB;obtain⟨m,hm⟩:∃m,sz A=m+1:=⟨sz A-1,by omega⟩;obtain⟨n,hn⟩:∃n,sz B=n+1:=⟨sz B-1,by omega⟩;have h1:(A*B) (m+n)≠0:=by
  rw[yp (λi hi=>oa af) (λi hi=>oa af)];intro e;rcases Dg.1 e with e|e
  ·exact IC hm e
  ·exact IC hn e
 have h2:=al4 h1;have h3:sz (A*B)≤m+n+1:=vD λi hi=>abt (A:=A.v) (B:=B.v) (m:=m+1) (n:=n+1) (λj hj=>oa (A:=A) af) (λj hj=>oa (A:=B) af) i af
 omega
def ug{c:Rat}(h:c≠0):K c≠0:=λe=>h (LQ (e.trans mA.symm))
def oJ{A B:Rx}(hA:A≠0)(hB:B≠0):A*B≠0:=λe=>by have h:=eK hA hB;rw[e,kQ]at h;have pa:=eN hA;have pb:=eN hB;omega
def Am{A B C:Rx}(hA:A≠0)(h:B*A=C*A):B=C:=by
 refine Ev ?_;refine gn λhn=>?_
 exact oJ hn hA (by rw[sub_mul,h,sub_self])
def oK:sz (1:Rx)=1:=by have h1:=Ez 1;have h2:=eN n6;rw[mD]at h1;omega
def EA{A:Rx}(h:sz A=1):∃c:Rat,c≠0∧A=K c:=by
 obtain⟨a,ha,rfl⟩:=kC A;rw[dV ha]at h;match a,h,ha with
 |[c],_,ha=>exact⟨c,ha.top (n:=0) ae,abu c⟩
def xa{A:Rx}(h:sz A=1):∃B:Rx,B*A=1:=by obtain⟨c,hc,rfl⟩:=EA h;exact⟨_,pC hc⟩
def B6{A B:Rx}(h:B*A=1):sz A=1:=by
 have hA:A≠0:=λe=>n6 (by rw[←h,e,mul_zero])
 have hB:B≠0:=λe=>n6 (by rw[←h,e,zero_mul])
 have h1:=eK hB hA;rw[h,oK]at h1;have pa:=eN hA;have pb:=eN hB;omega
def dvd_one{A:Rx}(h:A∣1):sz A=1:=by obtain⟨w,hw⟩:=h;exact B6 hw.symm
def kD{A B:Rx}(h:A∣B)(hB:B≠0):sz A≤sz B:=by
 obtain⟨w,rfl⟩:=h;have hw:w≠0:=λe=>hB JI
 have hA:A≠0:=λe=>hB (by rw[e,mul_zero])
 have h1:=eK hw hA;have pw:=eN hw;omega
def vq{A B:Rx}(h:A∣B)(bh:sz B<sz A):B=0:=
 gn λhn=>by have:=kD h hn;omega
def abv{B:Rx}(hB:B≠0):∀(n:Nat)(A:Rx),sz A<n→∃Q R,A=Q*B+R∧sz R<sz B
 |0,_,h=>by omega
 |n+1,A,h=>by
  by_cases e:sz A<sz B
  ·exact⟨0,A,by rw[zero_mul,zero_add],e⟩
  ·have pb:=eN hB;obtain⟨k,hk⟩:∃k,sz B=k+1:=⟨sz B-1,by omega⟩;obtain⟨m,hm⟩:∃m,sz A=m+k+1:=⟨sz A-k-1,by omega⟩;have h1:sz (A-K (A (m+k)*(B k)⁻¹)*(X m*B))<n:=by
    have:sz (A-K (A (m+k)*(B k)⁻¹)*(X m*B))≤m+k:=vD λi hi=>by
     rw[yn,iA,pt,aw (show m≤i by omega)];by_cases e2:i=m+k
     ·rw[e2,show m+k-m=k by omega,uL,ou _ (IC hk),Bb];grind
     ·rw[oa (A:=A) (i:=i) af,oa (A:=B) (i:=i-m) af];grind
    omega
   obtain⟨Q,R,h2,h3⟩:=abv hB n _ h1;refine⟨K (A (m+k)*(B k)⁻¹)*X m+Q,R,?_,h3⟩;rw[add_mul,add_assoc,←h2,mul_assoc,add_comm,lT]
def R4(A:Rx){B:Rx}(hB:B≠0):∃Q R,A=Q*B+R∧sz R<sz B:=abv hB _ A (fN _)
def An:∀(n:Nat)(A B:Rx),sz B<n→∃D U V,D∣A∧D∣B∧D=U*A+V*B
 |0,_,_,h=>by omega
 |n+1,A,B,h=>by
  by_cases e:B=0
  ·subst e;exact⟨A,1,0,dvd_refl A,dvd_zero A,by rw[one_mul,mul_zero,add_zero]⟩
  ·obtain⟨Q,R,h1,h2⟩:=R4 A e;obtain⟨D,U,V,h3,h4,h5⟩:=An n B R af;refine⟨D,V,U-V*Q,?_,h3,?_⟩
   ·rw[h1];exact dvd_add (fg h3 Q) h4
   ·rw[h5,h1,mul_add,sub_mul];have:V*(Q*B)+V*R+(U*B-V*Q*B)=(U*B-V*Q*B+V*Q*B)+V*R:=kI;rw[this,lT]
def Co(A B:Rx):Prop:=∃U V,U*A+V*B=1
def Co.dvd{A B C:Rx}(h:Co A B)(k:A∣B*C):A∣C:=by
 obtain⟨U,V,h⟩:=h;have:C=C*U*A+V*(B*C):=by have e1:C*(U*A)+C*(V*B)=C*U*A+V*(B*C):=kI;rw[←e1,←mul_add,h,mul_one]
 rw[this];exact dvd_add (dvd_mul_left A _) (fg k V)
def Co.LU{A B C:Rx}(h:Co A B)(ka:A∣C)(kb:B∣C):A*B∣C:=by obtain⟨w,rfl⟩:=kb;rw[mul_comm w B]at ka;obtain⟨v,rfl⟩:=h.dvd ka;exact⟨v,by ac_rfl⟩
def cp(Q:Rx):Prop:=2≤sz Q∧∀A B,Q=A*B→sz A=1∨sz B=1
def cp.ne{Q:Rx}(h:cp Q):Q≠0:=λe=>by have:=h.1;rw[e,kQ]at this;omega
def cp.or{Q:Rx}(h:cp Q)(A:Rx):Q∣A∨Co Q A:=by
 obtain⟨D,U,V,h1,h2,h3⟩:=An _ Q A (fN _);obtain⟨w,hw⟩:=h1;rcases h.2 _ _ hw with e|e
 ·obtain⟨B,hB⟩:=xa e;left;refine dvd_trans ⟨B,?_⟩ h2;rw[hw,←mul_assoc,hB,one_mul]
 ·obtain⟨B,hB⟩:=xa e;right;refine⟨B*U,B*V,?_⟩;rw[←hB,h3,mul_add,mul_assoc,mul_assoc]
def cp.xb{Q:Rx}(h:cp Q):¬Q∣1:=λe=>by have:=dvd_one e;have:=h.1;omega
def cp.rO{Q:Rx}(h:cp Q){A B:Rx}(k:Q∣A*B):Q∣A∨Q∣B:=by
 rcases h.or A with e|e
 ·exact .inl e
 ·exact .inr (e.dvd k)
def Ao:∀(n:Nat)(A:Rx),sz A<n→2≤sz A→∃Q,cp Q∧Q∣A
 |0,_,h,_=>by omega
 |n+1,A,h,h2=>by
  by_cases hi:cp A
  ·exact⟨A,hi,dvd_refl A⟩
  ·have:∃B C,A=B*C∧¬(sz B=1∨sz C=1):=gn λhn=>hi ⟨h2,λB C e=>gn λhc=>hn ⟨B,C,e,hc⟩⟩
   obtain⟨B,C,e,hc⟩:=this;have hA:A≠0:=λe=>by rw[e,kQ]at h2;omega
   have hB:B≠0:=λe2=>hA (by rw[e,e2,zero_mul])
   have hC:C≠0:=λe2=>hA (by rw[e,e2,mul_zero])
   have h3:=eK hB hC;rw[←e]at h3;have h4:=eN hB;have h5:=eN hC;obtain⟨Q,hQ,hd⟩:=Ao n B af af;exact⟨Q,hQ,by rw[e];exact qH hd C⟩
def Ap{A B:Rx}(hA:A≠0)(h:∀Q,cp Q→Q∣A→Q∣B→False):Co A B:=by
 obtain⟨D,U,V,h1,h2,h3⟩:=An _ A B (fN _);have hD:D≠0:=λe=>by obtain⟨w,hw⟩:=h1;rw[e,mul_zero]at hw;exact hA hw
 have h4:=eN hD;by_cases e:sz D=1
 ·obtain⟨C,hC⟩:=xa e;refine⟨C*U,C*V,?_⟩;rw[←hC,h3,mul_add,mul_assoc,mul_assoc]
 ·obtain⟨Q,hQ,hd⟩:=Ao _ D (fN _) af;exact(h Q hQ (dvd_trans hd h1) (dvd_trans hd h2)).elim
end Rx
end Go.El
