/- The engine, part 49: nil as an owned slice. Own work; no condition. -/
import Derived.Test.YtkkccchkmcjcpaaGreatR7
set_option linter.defProp false
set_option linter.unusedVariables false
set_option linter.unusedSimpArgs false
set_option linter.unnecessarySimpa false
namespace Go.El
open Go Go.RowKit
def Ia(l:List (Nat×AV))(id:Nat):List (Nat×AV)→Prop
 |[]=>True
 | (t,v')::r=>((∃v,ao t l=some v∧au v v')∨(ao t l=some (.c (.V (.slice none 0 0)))∧v'= .c (.X id)))∧Ia l id r
def Ia.get{l:List (Nat×AV)}{id:Nat}:∀{m:List (Nat×AV)},Ia l id m→∀{t v'},ao t m=some v'→(∃v,ao t l=some v∧au v v')∨(ao t l=some (.c (.V (.slice none 0 0)))∧v'= .c (.X id))
 |[],_,_,_,h=>by simp[ao]at h
 | (k,x)::m,hw,t,v',h=>by
  simp only[ao]at h;split at h
  ·rename_i e;subst e;cases h;exact hw.1
  ·exact Ia.get hw.2 h
def s9(id:Nat)(E:TypeId)(T:ET){sl:List (Nat×AV)}{mem:List (Nat×aJ)}{nx:Nat}{gd:List (Nat×Bool)}{sl':List (Nat×AV)}{m2:List (Nat×aJ)}{nx':Nat}{gd':List (Nat×Bool)}(hs:Ia sl id sl')(hm:iM mem m2)(al:Nat.ble (1000000*nx) id=true)
  (uj:eO (1000000*nx') ((id,.vec E T [])::m2)) (qJ:sK (1000000*nx') sl'=true:=by rfl) (eS:(Nat.ble 1 nx'&&Nat.ble 1 id)=true:=by rfl):Wk ⟨sl,mem,nx,gd⟩ ⟨sl',(id,.vec E T [])::m2,nx',gd'⟩:=by
 generalize dc:(⟨sl,mem,nx,gd⟩:St)=st
 obtain rfl:sl=st.sl:=AQ
 obtain rfl:mem=st.mem:=AQ
 obtain rfl:nx=st.nx:=AQ
 clear dc
 intro F gM g W a h
 simp only[eQ]at eS
 obtain⟨eS,Ib⟩:=eS
 have eS:=cT eS
 have Ib:=cT Ib
 have al:=cT al
 let g':Gh:=⟨g.H,λj=>if j=id then .slice none 0 0 else g.γ j⟩
 have hle:iH (kb st) g g':=⟨cC.refl _,λj hj=>by have hj:j<1000000*st.nx:=hj;have:j≠id:=af;simp[g',this]⟩
 have lQ:g'.γ id= .slice none 0 0:=by simp[g']
 have xT:∀id,id<F.k0→id<1000000*nx'∧g'.γ id=F.γ0 id:=by intro j hj;obtain⟨h1,h2⟩:=h.iu j hj;refine⟨by omega,?_⟩;rw[hle.γ j h1];exact h2
 have hS:∀t v',St.kn ⟨sl',(id,.vec E T [])::m2,nx',gd'⟩ (.s t)=some (.v v')→((∃v,st.kn (.s t)=some (.v v)∧au v v')∨(st.kn (.s t)=some (.v (.c (.V (.slice none 0 0))))∧v'= .c (.X id)))∧∀id∈v'.aD,id<1000000*nx':=by
  intro t v' e;simp only[St.kn,cq]at e;obtain⟨y,hy,he⟩:=e;cases he;refine⟨?_,zJ qJ t v' hy⟩;rcases hs.get hy with⟨v,hv,hle⟩|⟨hv,e⟩
  ·exact .inl ⟨v,by simp[St.kn,hv],hle⟩
  ·exact .inr ⟨by simp[St.kn,hv],e⟩
 have hM:∀j b',St.kn ⟨sl',(id,.vec E T [])::m2,nx',gd'⟩ (.m j)=some (.b b')→((j=id∧b'= .vec E T [])∨∃b,st.kn (.m j)=some (.b b)∧dd b b')∧(j<1000000*nx'∧∀i∈b'.aD,i<1000000*nx'):=by
  intro t v' e;simp only[St.kn,cq]at e;obtain⟨y,hy,he⟩:=e;cases he;refine⟨?_,uj t v' hy⟩;simp only[ao]at hy;split at hy
  ·rename_i e;cases hy;exact .inl ⟨e.symm,ae⟩
  ·obtain⟨v,hv,hle⟩:=hm.get hy;exact .inr ⟨v,by simp[St.kn,hv],hle⟩
 refine⟨g',h.size,h.defers,?_,?_,?_,?_,?_,h.sub,h.below,h.le,h.fresh,xT⟩
 ·intro t v' e;rcases(hS t v' e).1 with⟨v,hv,H7⟩|⟨hv,rfl⟩
  ·exact H7.1 _ _ (bP.mono hle (h.aD _ _ hv) (h.gw t v hv))
  ·have h1:a.tmps.getD t undef= .slice none 0 0:=h.gw t _ hv;show _=g'.γ id;rw[lQ];exact h1
 ·intro j b' e;rcases(hM j b' e).1 with⟨rfl,rfl⟩|⟨b,hb,eJ⟩
  ·exact .inl ⟨lQ,ae⟩
  ·exact eJ.1 _ _ _ _ ((h.c9 j b hb).D6 hle (h.fy _ _ hb) (h.aD _ _ hb) (λk hk=>⟨ae,λo=>rfl⟩))
 ·intro i j b1 b2 k e e' hk du;rcases(hM i b1 e).1 with⟨rfl,_⟩|⟨c,hc,_⟩
  ·rw[lQ]at hk;cases hk
  ·rcases(hM j b2 e').1 with⟨rfl,_⟩|⟨c',pf,_⟩
   ·rw[lQ]at du;cases du
   ·rw[hle.γ i (h.fy _ _ hc)]at hk;rw[hle.γ j (h.fy _ _ pf)]at du;exact h.inj i j c c' k hc pf hk du
 ·intro k y e i hi;cases k with
  |s t=>
   cases y with
   |v v'=>exact(hS t v' e).2 i hi
   |b b'=>simp only[St.kn,cq]at e;obtain⟨_,_,he⟩:=e;cases he
  |m j=>
   cases y with
   |v v'=>simp only[St.kn,cq]at e;obtain⟨_,_,he⟩:=e;cases he
   |b b'=>exact(hM j b' e).2.2 i hi
 ·intro j y e;cases y with
  |v v'=>simp only[St.kn,cq]at e;obtain⟨_,_,he⟩:=e;cases he
  |b b'=>exact(hM j b' e).2.1
end Go.El
namespace Go.El
open Go Go.Proofs Fx
noncomputable def L9{p:Nat}(H:bI p)(A:Fx p):List Int:=Classical.choose (kC H.pos A)
def Sq{p:Nat}(H:bI p)(A:Fx p):bV p (L9 H A):=(xy (kC H.pos A)).1
def aku{p:Nat}(H:bI p)(A:Fx p):fx (L9 H A)=A:=(xy (kC H.pos A)).2
noncomputable def mH{p:Nat}(H:bI p)(f:List Int)(A:Fx p):List Int:=(bM (L9 H A) f p).2
section
variable{p:Nat}(H:bI p){f:List Int}(hf:bV p f)(ig:f≠[])
include hf ig
def Cf(A:Fx p):bV p (mH H f A)∧(mH H f A).length<f.length∧fx f∣fx (mH H f A)-A:=by obtain⟨d1,d2,d3,d4,d5,d6⟩:=k8 H.hp H.le (Sq H A).1 hf ig;have hl:=cX.2 ig;refine⟨d5 (Sq H A),by show(bM (L9 H A) f p).2.length<_;omega,?_⟩;have:=R8 H (Sq H A) hf ig;rwa[aku]at this
def akv{A:Fx p}{r:List Int}(hr:bV p r)(hl:r.length<f.length)(hc:fx f∣fx r-A):r=mH H f A:=by obtain⟨m1,m2,m3⟩:=Cf H hf ig A;have h1:fx f∣fx r-fx (mH H f A):=rN hc (nE m3);have h2:=vq H h1 (by have:=HO H.pos (fx r:Fx p) (fx (mH H f A));rw[de hr,de m1]at this;rw[de hf];omega);exact w9 hr m1 (Ev h2)
end
def rQ(p:Nat)(f a b:List Int):List Int:=(bM (eC a b p) f p).2
def Sr{p:Nat}(H:bI p){f a b:List Int}(hf:bV p f)(ig:f≠[]):bV p (rQ p f a b)∧(rQ p f a b).length<f.length∧(fx f:Fx p)∣fx (rQ p f a b)-fx a*fx b:=by obtain⟨d1,d2,d3,d4,d5,d6⟩:=k8 H.hp H.le (nD H.pos a b).1 hf ig;have hl:=cX.2 ig;refine⟨d5 (nD H.pos a b),by show(bM (eC a b p) f p).2.length<_;omega,?_⟩;have:=R8 H (nD H.pos a b) hf ig;rwa[HN]at this
abbrev L'(f:List Int)(p:Int):AV:= .c (.M (EG 159 [(true,[.S aM f,.I .u64 p])] []))
set_option maxHeartbeats 4000000 in
def ZM{p:Nat}(H:bI p)(f a:List Int)(n:Nat)(lf:f.length≤200)(hf:bV p f)(ha:bV p a)(EJ:a.length<f.length)(DB:0<n)(hn:n<18446744073709551616):
  aG Tryz.prog 182 [aP a p,cU n,L' f p] (aP (mH H f (pk (fx a) n)) p):=by
 refine aX Tryz.func182 ae ae ae ae ae ak ?_
 have ig:f≠[]:=λe=>by rw[e]at EJ;simp at EJ
 refine rr ae (rr ae (aj (rr ae ?_)))
 refine aK (bA (α:=List Int×List Int×Nat) (λx=>⟨[(1,cU x.2.2),(2,L' f p),(3,.c (.P 0 0)),(6,.c (.P 1000 0)),(7,.c (.P 1001000 0))],[(0,.box 101 0 [.S aM x.2.1,.I .u64 p]),(1000,.box 101 0 [.V (.slice none 0 0),.I .u64 0]),(1001000,.box 101 0 [.S aM x.1,.I .u64 p])],3,[]⟩) (λx=>bV p x.1∧bV p x.2.1∧x.1.length<f.length∧x.2.1.length<f.length∧x.2.2<18446744073709551616∧(fx f:Fx p)∣fx x.1*pk (fx x.2.1) x.2.2-pk (fx a) n) (λx=>x.2.2) (a,a,n-1) ⟨ha,ha,EJ,EJ,by show n-1<_;omega,?_⟩ (wk ⟨sE ae ?_,sR ae,sR ae,sR ae,sR ae,ah⟩ ⟨bE ae ae,bE ae ae,bE ae ae,ah⟩) ?_)
 ·obtain⟨m,rfl⟩:∃m,n=m+1:=⟨n-1,by omega⟩;show fx f∣fx a*pk (fx a) (m+1-1)-pk (fx a) (m+1);rw[jx,pk,mul_comm (fx a)];exact wW _ _
 ·exact az (λz=>AV.c (C.I .u64 z)) (show IntKind.wrap .u64 ((n:Int)-1)=((n-1:Nat):Int)from(wrap_u64 _ af af).trans af)
 rintro⟨r,b,m⟩ ⟨hr,hb,lr,lb,hm,hc⟩
 simp only at hr hb lr lb hm hc
 have qG:=Sr H (a:=b) (b:=b) hf ig
 have uT:aG Tryz.prog 159 ([aP f p]++([aP b p,aP b p]++[])) (aP (rQ p f b b) p):=HL p H.hp H.le f b b af af af hf hb hb ig
 refine aj (rr ae (ax ae (λh=>?_) (λh=>?_)))
 ·have h:0<m:=by have h:(m:Int)>0:=bc h;omega
  refine aC (ai (aj (aK (aj (rr ae (hp:=aR) (ax ae (λh2=>?_) (λh2=>?_)))))))
  ·have h2:(m:Int).tmod 2=1:=eq_of_beq h2;have m7:m%2=1:=by rw[show(2:Int)=((2:Nat):Int)from ae,k7]at h2;omega
   obtain⟨k,rfl⟩:∃k,m=2*k+1:=⟨m/2,by omega⟩;have Ss:=Sr H (a:=r) (b:=b) hf ig;have lK:aG Tryz.prog 159 ([aP f p]++([aP r p,aP b p]++[])) (aP (rQ p f r b) p):=HL p H.hp H.le f r b af af af hf hr hb ig;refine cG (Ce ae ae (.inr ⟨_,_,ae,ae,ae⟩) ae lK (re ae (ai ?_)));refine cG (Ce ae ae (.inr ⟨_,_,ae,ae,ae⟩) ae uT (re ae (a7 (ai (rt ae (hp:=aR) (a8 (rQ p f r b,rQ p f b b,k) ⟨Ss.1,qG.1,Ss.2.1,qG.2.1,by show k<_;omega,?_⟩ (by show k<2*k+1;omega) (wk ⟨sE ae ?_,sR ae,sR ae,sR ae,sR ae,ah⟩ ⟨bE ae ae,bE ae ae,bE ae ae,ah⟩)))))))
   ·show fx f∣fx (rQ p f r b)*pk (fx (rQ p f b b)) k-pk (fx a) n;refine rN (Ex Ss.2.2 (B5 qG.2.2 k)) ?_;rw[wY,mul_assoc,←wX];have e:fx b*pk (fx b) (k+k)=(pk (fx b) (2*k+1):Fx p):=by rw[mul_comm,show k+k=2*k by omega];rfl
    rw[e];exact hc
   ·exact az (λz=>AV.c (C.I .u64 z)) ((BU (2*k+1) hm).trans (show((((2*k+1)/2:Nat)):Int)=(k:Int)by omega))
  ·have h2:(m:Int).tmod 2≠1:=kN h2;have dR:m%2=0:=by rw[show(2:Int)=((2:Nat):Int)from ae,k7]at h2;omega
   obtain⟨k,rfl⟩:∃k,m=2*k:=⟨m/2,by omega⟩;refine aC (ai ?_);refine cG (Ce ae ae (.inr ⟨_,_,ae,ae,ae⟩) ae uT (re ae (a7 (ai (rt ae (hp:=aR) (a8 (r,rQ p f b b,k) ⟨hr,qG.1,lr,qG.2.1,by show k<_;omega,?_⟩ (by show k<2*k;omega) (wk ⟨sE ae ?_,sR ae,sR ae,sR ae,sR ae,ah⟩ ⟨bE ae ae,bE ae ae,bE ae ae,ah⟩)))))))
   ·show fx f∣fx r*pk (fx (rQ p f b b)) k-pk (fx a) n;refine rN (Ex (wW _ (fx r)) (B5 qG.2.2 k)) ?_;rw[wY,←wX,show k+k=2*k by omega];exact hc
   ·exact az (λz=>AV.c (C.I .u64 z)) ((BU (2*k) hm).trans (show((((2*k)/2:Nat)):Int)=(k:Int)by omega))
 ·have h:m=0:=by have h:¬(m:Int)>0:=bC h;omega
  subst h;rw[pk,mul_one]at hc;rw[akv H hf ig hr lr hc];exact bp (bu (br (bq (ai (rr ae (aF (aL ar ae (au.refl _))))))))
def jT(p:Nat):List (List Int)→Fx p
 |[]=>1
 |g::l=>fx g*jT p l
def Su(p:Nat):∀l m:List (List Int),jT p (l++m)=jT p l*jT p m
 |[],m=>(one_mul _).symm
 |g::l,m=>by rw[mQ,jT,jT,Su p l m,mul_assoc]
def EK(p:Nat):∀{l:List (List Int)}{g:List Int},g∈l→(fx g:Fx p)∣jT p l
 |h::l,g,hg=>by
  rcases dx.1 hg with rfl|hg
  ·exact dvd_mul_right _ _
  ·exact fg (EK p hg) _
structure Sv(p:Nat)(f:List Int)(V:Fx p)(l:List (List Int)):Prop where
 parts:∀g∈l,Mon p g∧2≤g.length∧∃c,(fx g:Fx p)∣V-K c
 prod:jT p l=fx f
noncomputable def kh{p:Nat}(H:bI p)(f v:List Int)(s:Int):List Int:=
 if 2<p then a6 (js (mH H f (pk (fx (a6 (js v 1 (a6 [s]) p))) ((p-1)/2))) (p-1) [1] p)else a6 (js v 1 (a6 [s]) p)
def ZN{p:Nat}(f:List Int)(s:Int)(g:List Int):(fx (a6 (js f s g p)):Fx p)=fx f+K s*fx g:=by rw[wZ];exact mk_eq.2 (Zb f s g p)
def akw{p:Nat}(s:Int):(fx (a6 [s]):Fx p)=K s:=by rw[wZ,RY]
def Sw{p:Nat}(H:bI p){f v:List Int}(hf:bV p f)(ig:f≠[])(hv:bV p v)(bh:v.length<f.length)(ku:1≤v.length){s:Nat}(hs:s<p):bV p (kh H f v s)∧(fx f:Fx p)∣fx (kh H f v s)-Ar p (fx v) s:=by
 have h2:=H.hp.1;have fG:rp p (a6 [(s:Int)]):=LF H.pos (wT af af);have h1:bV p (a6 (js v 1 (a6 [(s:Int)]) p)):=nC H.pos (HJ H.pos hv.1 _ _);have e1:(fx (a6 (js v 1 (a6 [(s:Int)]) p)):Fx p)=fx v+K s:=by rw[ZN,akw,mD,one_mul]
 unfold kh Ar;by_cases hp:2<p
 ·rw[aw hp,aq af,e1];obtain⟨m1,m2,m3⟩:=Cf H hf ig (pk (fx v+K (s:Int):Fx p) ((p-1)/2));refine⟨nC H.pos (HJ H.pos m1.1 _ _),?_⟩;have e2:(K ((p:Int)-1):Fx p)*fx [1]= -1:=by rw[LS,mul_one,Ey,K_p,mD,sub_def,zero_add]
  rw[ZN,e2];exact RW m3 (wW _ _)
 ·rw[aq hp,aw af,e1];exact⟨h1,wW _ _⟩
def least{P:Nat→Prop}:∀n,P n→∃m,m≤n∧P m∧∀k,k<m→¬P k:=by
 intro n;induction n using Nat.strongRecOn with
 |_ n ih=>
  intro h
  by_cases e:∃k,k<n∧P k
  ·obtain⟨k,h1,h2⟩:=e;obtain⟨m,h3,h4,h5⟩:=ih k h1 h2;exact⟨m,by omega,h4,h5⟩
  ·exact⟨n,bF _,h,λk hk hp=>e ⟨k,hk,hp⟩⟩
def Ch{p:Nat}(H:bI p)(f v:List Int)(s:Nat):Prop:=1<(gh p f (kh H f v s)).length∧(gh p f (kh H f v s)).length<f.length
def akx{p:Nat}(H:bI p){f v:List Int}(hf:Mon p f)(h2:2≤f.length)(hs:k9 (fx f:Fx p))(hv:bV p v)(bh:v.length<f.length)(sr:2≤v.length)(hV:(fx f:Fx p)∣pk (fx v) p-fx v):∃s,s<p∧Ch H f v s∧∀k,k<s→¬Ch H f v k:=by
 have hn:∀c,¬(fx f:Fx p)∣fx v-K c:=by intro c hd;have h1:=vq H hd (by have h3:=HO H.pos (fx v:Fx p) (K c);have h4:=Ez H.pos c (p:=(p:Int));rw[de hv]at h3;rw[de hf.c];omega);have h5:=Ev h1;have h4:=Ez H.pos c (p:=(p:Int));rw[←h5,de hv]at h4;omega
 obtain⟨s,pD,Q1,Q2,i1,i2,d1,d2,t1,t2⟩:=sep H (by rw[de hf.c];exact h2) hs hV hn;obtain⟨c1,c2⟩:=Sw H hf.c hf.ne hv bh af pD;obtain⟨m1,m2,m3,U,W,m4⟩:=ED H hf.c c1 hf.ne;have hg:Ch H f v s:=by
  have q1:Q1∣fx (kh H f v s):=Ew (dvd_trans d1 c2) t1;have q2:¬Q2∣fx (kh H f v s):=λh=>t2 (Ew (nE (dvd_trans d2 c2)) h)
  have g0:=m1.m8 H;have g1:Q1∣fx (gh p f (kh H f v s)):=by rw[m4];exact dvd_add (fg d1 U) (fg q1 W)
  have g2:=kD H g1 g0;have g3:=kD H m2 (hf.m8 H);have g4:=i1.1;rw[de m1.c]at g2 g3;rw[de hf.c]at g3;refine⟨by omega,?_⟩;by_cases e:(gh p f (kh H f v s)).length<f.length
  ·exact e
  ·exfalso;obtain⟨w,hw⟩:=m2;have w0:w≠0:=λe=>hf.m8 H (by rw[hw,e,zero_mul])
   have h6:=eK H w0 g0;rw[←hw,de hf.c,de m1.c]at h6;obtain⟨C,hC⟩:=xa H (show sz w=1 by omega);refine q2 (dvd_trans d2 (dvd_trans ⟨C,?_⟩ m3));rw[hw,←mul_assoc,hC,one_mul]
 obtain⟨m,h1,h2,h3⟩:=least s hg;exact⟨m,by omega,h2,h3⟩
def aky{p:Nat}(H:bI p){f v:List Int}(hf:Mon p f)(hs:k9 (fx f:Fx p))(hv:bV p v)(bh:v.length<f.length)(sr:2≤v.length)(hV:(fx f:Fx p)∣pk (fx v) p-fx v){s:Nat}(pD:s<p)(hg:Ch H f v s):
  let g:=gh p f (kh H f v s)
  let h:=(bM f g p).1
  (Mon p g∧2≤g.length∧g.length<f.length∧k9 (fx g:Fx p)∧(fx g:Fx p)∣pk (fx v) p-fx v)∧(Mon p h∧2≤h.length∧h.length<f.length∧k9 (fx h:Fx p)∧(fx h:Fx p)∣pk (fx v) p-fx v)∧(fx f:Fx p)=fx h*fx g:=by
 intro g h
 obtain⟨c1,c2⟩:=Sw H hf.c hf.ne hv bh af pD
 obtain⟨m1,m2,m3,_⟩:=ED H hf.c c1 hf.ne
 have hg1:1<g.length:=hg.1
 have zQ:g.length<f.length:=hg.2
 have q1:Mon p h:=LW H hf m1 af
 have q2:(fx f:Fx p)=fx h*fx g:=As H hf.c m1.c m1.ne m2
 obtain⟨_,_,_,_,_,q3⟩:=k8 H.hp H.le hf.c.1 m1.c m1.ne
 have q3:h.length=f.length-(g.length-1):=q3
 have q4:(fx h:Fx p)∣fx f:=by rw[q2];exact dvd_mul_right _ _
 exact⟨⟨m1,by omega,zQ,hs.of_dvd m2,dvd_trans m2 hV⟩,⟨q1,by omega,by omega,hs.of_dvd q4,dvd_trans q4 hV⟩,q2⟩
def akz{w:List Int}(h:w.length<2):w=[]∨∃c,w=[c]:=by
 cases w with
 |nil=>exact .inl ae
 |cons c w=>
  cases w with
  |nil=>exact .inr ⟨c,ae⟩
  |cons d w=>simp at h;omega
abbrev PT:ET:= .pr (.sl aM) aM
abbrev lP(p:Nat)(l:List (List Int)):List (List Int×Int):=l.map λg=>(g,(p:Int))
set_option maxHeartbeats 8000000 in
def Sx{p:Nat}(H:bI p):∀(N:Nat)(f v:List Int),f.length<N→f.length≤200→Mon p f→2≤f.length→k9 (fx f:Fx p)→bV p v→v≠[]→v.length≤200→(fx f:Fx p)∣pk (fx v) p-fx v→
  ∃l,Sv p f (fx v) l∧l.length+1≤f.length∧mY Tryz.prog 184 [aP f p,aP v p] 101 PT (lP p l)
 |0,_,_,h,_,_,_,_,_,_,_,_=>by omega
 |N+1,f,v,hN,lf,hf,h2,hs,hv,oG,lv,hV=>by
  have iJ:=H.hp.1;have DR:=H.le;have vi:(p:Int)≠0:=af;obtain⟨d1,d2,d3,d4,d5,d6⟩:=k8 H.hp H.le hv.1 hf.c hf.ne;have qL:=R8 H hv hf.c hf.ne;have kg:=yq p H.hp H.le v f af af hv.1 hf.c oG hf.ne;have hw:=d5 hv;generalize hwE:(bM v f p).2=w at*;have ZO:(fx f:Fx p)∣pk (fx w) p-fx w:=rN (B5 qL p) (rN hV (nE qL));by_cases ve:w.length<2
  ·refine⟨[f],⟨λg hg=>?_,by rw[jT,jT,mul_one]⟩,by simp;omega,?_⟩
   ·have e:=jw.1 hg;subst e;refine⟨hf,h2,?_⟩;rcases akz ve with e|⟨c,e⟩
    ·exact⟨0,by rw[mA,←n5,←e];exact nE qL⟩
    ·exact⟨c,by rw[←RY,←e];exact nE qL⟩
   ·refine zS Tryz.func184 ae ae ae ae ak ?_;refine rr ae (rb (rc ae ae kg (re ae ?_)));refine aj (rb (rc ae ae (tZ w p af) (re ae (ax ae (λh=>?_) (λh=>?_)))))
    ·exact rb (x8 PT [(f,(p:Int))] ae ae (re ae (aF (bW (ya (id:=3001000) ar ae ae)))))
    ·exfalso;have h:¬(w.length:Int)-1<1:=bC h;omega
  ·have bh:w.length<f.length:=by omega
   have EL:2≤w.length:=af;obtain⟨s0,zT,hG,QA⟩:=akx H hf h2 hs hw bh EL ZO;obtain⟨⟨a1,a2,a3,a4,a5⟩,⟨b1,b2,b3,b4,b5⟩,e0⟩:=aky H hf hs hw bh EL ZO zT hG;have Sy:w≠[]:=λe=>by rw[e]at EL;simp at EL
   obtain⟨l1,o1,n1,k1⟩:=Sx H N _ w af af a1 a2 a4 hw Sy af a5;obtain⟨l2,o2,n2,k2⟩:=Sx H N _ w af af b1 b2 b4 hw Sy af b5;have hlen:(gh p f (kh H f w s0)).length+(bM f (gh p f (kh H f w s0)) p).1.length=f.length+1:=by have h3:=eK H (b1.m8 H) (a1.m8 H);rw[←e0,de hf.c,de b1.c,de a1.c]at h3;omega
   refine⟨l1++l2,⟨λg hg=>?_,?_⟩,by rw[ko];omega,?_⟩
   ·have up:∀c,(fx g:Fx p)∣fx f→(fx g:Fx p)∣fx w-K c→(fx g:Fx p)∣fx v-K c:=λc e1 e2=>rN (nE (dvd_trans e1 qL)) e2
    rcases bX.1 hg with hg|hg
    ·obtain⟨q1,q2,c,q3⟩:=o1.parts g hg;refine⟨q1,q2,c,up c ?_ q3⟩;rw[e0,←o1.prod];exact fg (EK p hg) _
    ·obtain⟨q1,q2,c,q3⟩:=o2.parts g hg;refine⟨q1,q2,c,up c ?_ q3⟩;rw[e0,←o2.prod];exact qH (EK p hg) _
   ·rw[Su,o1.prod,o2.prod,e0,mul_comm]
   have sX:(lP p l1).length=l1.length∧(lP p l2).length=l2.length:=⟨dJ _,dJ _⟩;rw[show lP p (l1++l2)=lP p l1++lP p l2 from dZ];refine zS Tryz.func184 ae ae ae ae ak ?_;refine rr ae (rb (rc ae ae kg (re ae ?_)));refine aj (rb (rc ae ae (tZ w p af) (re ae (ax ae (λh=>?_) (λh=>aC (ai ?_))))))
   ·exfalso;have h:(w.length:Int)-1<1:=bc h;omega
   refine aj (rr ae (aK (bA (α:=Nat) (λs=>⟨[(2,.c (.P 0 0)),(3,.c (.P 1000 0)),(22,cU p),(23,cU s)],[(0,.box 101 0 [.S aM f,.I .u64 p]),(1000,.box 101 0 [.S aM w,.I .u64 p])],4,[]⟩) (λs=>s≤s0) (λs=>p-s) 0 (bK _) (wk ⟨sR ae,sR ae,sR ae,sR ae,ah⟩ ⟨bE ae ae,bE ae ae,ah⟩) ?_)));intro s zt;have pD:s<p:=af;refine rr ae (aj (ax ae (λh=>aC (ai (aj (aK ?_)))) (λh=>?_)));rotate_left
   ·exfalso;have h:¬(s:Int)<(p:Int):=bC h;omega
   have hconst:=Ai f s p H.pos af af af;have fG:rp p (a6 [(s:Int)]):=LF H.pos (wT af af);have yh:(a6 [(s:Int)]).length≤1:=vp _;have akA:=RQ w 1 (a6 [(s:Int)]) p af af H.pos af hw.1 fG ⟨by omega,by omega⟩ (.inl Sy);obtain⟨c1,c2⟩:=Sw H hf.c hf.ne hw bh af pD;have lM:(a6 (js w 1 (a6 [(s:Int)]) p)).length≤w.length:=by have:=vp (js w 1 (a6 [(s:Int)]) p);rw[LL]at this;omega
   have htc:bV p (a6 (js w 1 (a6 [(s:Int)]) p)):=nC H.pos (HJ H.pos hw.1 _ _);have Sz:kh H f w s=if 2<p then a6 (js (mH H f (pk (fx (a6 (js w 1 (a6 [(s:Int)]) p))) ((p-1)/2))) (p-1) [1] p)else a6 (js w 1 (a6 [(s:Int)]) p):=rfl
   have htL:(kh H f w s).length≤f.length:=by
    rw[Sz];split
    ·have:=vp (js (mH H f (pk (fx (a6 (js w 1 (a6 [(s:Int)]) p))) ((p-1)/2))) ((p:Int)-1) [1] p);have:=(Cf H hf.c hf.ne (pk (fx (a6 (js w 1 (a6 [(s:Int)]) p))) ((p-1)/2))).2.1;rw[LL]at*;simp only[fk,mc]at*;omega
    ·omega
   have SA:=LK p H.hp H.le f (kh H f w s) af af hf.c c1 hf.ne;generalize aT:a6 (js w 1 (a6 [(s:Int)]) p)=t at*;refine rr ae (rb (rc ae ae hconst (rc ae ae akA (re ae ?_))));refine wO ⟨[(2,.c (.P 0 0)),(3,.c (.P 1000 0)),(6,.c (.P 6005000 0)),(22,cU p),(23,cU s)],[(0,.box 101 0 [.S aM f,.I .u64 p]),(1000,.box 101 0 [.S aM w,.I .u64 p]),(6005000,.box 101 0 [.S aM (kh H f w s),.I .u64 p])],9,[]⟩ ?_ (λic=>rr ae (ax ae (λh3=>?_) (λh3=>aC (my ic (wk ⟨sR ae,sR ae,sR ae,sR ae,sR ae,ah⟩ ⟨bE ae ae,bE ae ae,bE ae ?_,ah⟩)))))
   ·obtain⟨m1,m2,m3,_⟩:=ED H hf.c c1 hf.ne;have jr:(gh p f (kh H f w s)).length≤f.length:=by have:=kD H m2 (hf.m8 H);rwa[de m1.c,de hf.c]at this
    have SB:Ch H f w s↔1<(gh p f (kh H f w s)).length∧(gh p f (kh H f w s)).length<f.length:=Iff.rfl;have next:¬Ch H f w s→s+1≤s0:=λhn=>by
     rcases wj s s0 with e|e
     ·exact e
     ·exact absurd (show Ch H f w s by rw[show s=s0 by omega];exact hG) hn
    refine rb (rc ae ae SA (re ae (rb (rc ae ae (tZ (gh p f (kh H f w s)) p af) (rg 54 ae ae (λh1=>?_) (λh1=>?_))))))
    ·have h1:((gh p f (kh H f w s)).length:Int)-1>0:=bc h1;refine ia ae ae ae ae ae (tZ (gh p f (kh H f w s)) p af) (ia ae ae ae ae ae (tZ f p af) (re ae (ax ae (λh2=>?_) (λh2=>?_))))
     ·have h2:((gh p f (kh H f w s)).length:Int)-1<(f.length:Int)-1:=bc h2;have es:s=s0:=by
       rcases wj s s0 with e|e
       ·exact absurd (SB.2 ⟨by omega,by omega⟩) (QA s e)
       ·omega
      subst es;have akC:=yq p H.hp H.le f (gh p f (kh H f w s)) af af hf.c.1 m1.c hf.ne m1.ne;refine rb (rc ae ae akC (re ae (rb (wK ae ae k1 (rc ae ae k2.fs (ra ae ae ae ae ae ae ae ae ae ?_ ?_ (re ae (aF (fC (bW (ix (fC (bW (ya (id:=12006000) ar ae ae))))))))))))))
      ·show(_+_+(_+_)/4+192)*32≤_;omega
      ·show(_+_)*2≤_;omega
     ·have h2:¬((gh p f (kh H f w s)).length:Int)-1<(f.length:Int)-1:=bC h2;refine aC (a7 (ai (rt ae (hp:=aR) (a8 (s+1) (next λhn=>by have:=(SB.1 hn).2;omega) (by show p-(s+1)<p-s;omega) (wk ⟨sR ae,sR ae,sR ae,sE ae ?_,ah⟩ ⟨bE ae ae,bE ae ae,ah⟩)))));exact az (λz=>AV.c (C.I .u64 z)) (wrap_u64 _ af af)
    ·have h1:¬((gh p f (kh H f w s)).length:Int)-1>0:=bC h1;refine re ae (ax ae (λh2=>by cases h2) (λh2=>aC (a7 (ai (rt ae (hp:=aR) (a8 (s+1) (next λhn=>by have:=(SB.1 hn).1;omega) (by show p-(s+1)<p-s;omega) (wk ⟨sR ae,sR ae,sR ae,sE ae ?_,ah⟩ ⟨bE ae ae,bE ae ae,ah⟩)))))));exact az (λz=>AV.c (C.I .u64 z)) (wrap_u64 _ af af)
   ·have h3:(p:Int)>2:=bc h3;have e1:IntKind.wrap .u64 ((p:Int)-1)=(p:Int)-1:=wrap_u64 _ af af;have e2:IntKind.wrap .u64 ((IntKind.wrap .u64 ((p:Int)-1)).tdiv 2)=(((p-1)/2:Nat):Int):=by rw[e1,show(p:Int)-1=((p-1:Nat):Int)by omega];exact BU (p-1) af
    have Ic:aG Tryz.prog 182 [aP t p,cU (IntKind.wrap .u64 ((IntKind.wrap .u64 ((p:Int)-1)).tdiv 2)),L' f p] (aP (mH H f (pk (fx t) ((p-1)/2))) p):=by rw[e2];exact ZM H f t _ af hf.c htc af af af
    obtain⟨z1,z2,z3⟩:=Cf H hf.c hf.ne (pk (fx t) ((p-1)/2));have SC:aG Tryz.prog 125 [aP f p,cU 1] (aP [1] p):=by have:=Ai f 1 p H.pos af af af;rwa[HI ak]at this
    have akD:aG Tryz.prog 233 [aP (mH H f (pk (fx t) ((p-1)/2))) p,cU (IntKind.wrap .u64 ((p:Int)-1)),aP [1] p] (aP (a6 (js (mH H f (pk (fx t) ((p-1)/2))) (p-1) [1] p)) p):=by rw[e1];exact RQ _ _ [1] p af be H.pos af z1.1 (wT af af) ⟨by omega,by omega⟩ (.inr be)
    refine cG (L8 ae ae ae (rc ae ae Ic (rc ae ae SC (rc ae ae akD (re ae (my ic (wk ⟨sR ae,sR ae,sR ae,sR ae,sR ae,ah⟩ ⟨bE ae ae,bE ae ae,bE ae ?_,ah⟩)))))));rw[Sz,aw af];rfl
   ·have h3:¬(p:Int)>2:=bC h3;rw[Sz,aq af];rfl
end Go.El
namespace Go.El
def gX(n:Nat)(a w:Nat→Int):Int:=sm (λc=>a c*w c) n
def rR(p n:Nat)(G:Nat→Nat→Int)(w:Nat→Int):Prop:=∀r,r<n→gX n (G r) w%(p:Int)=0
def Ie{p:Int}{f g:Nat→Int}:∀{k:Nat},(∀i,i<k→f i%p=g i%p)→sm f k%p=sm g k%p
 |0,_=>rfl
 |k+1,h=>by rw[sm,sm,uM,Ie (λi hi=>h i af),h k af,←uM]
def akE(n:Nat)(a b w:Nat→Int)(x:Int):gX n (λc=>a c+x*b c) w=gX n a w+x*gX n b w:=by unfold gX;rw[←ua,←BV];exact fT λi _=>by rw[lF,j5]
def ZP(n:Nat)(a w v:Nat→Int)(x:Int):gX n a (λc=>w c+x*v c)=gX n a w+x*gX n a v:=by unfold gX;rw[←ua,←BV];exact fT λi _=>by rw[oX,Wb]
def akF(n:Nat)(a w:Nat→Int)(x:Int):gX n (λc=>a c*x) w=x*gX n a w:=by unfold gX;rw[←ua];exact fT λi _=>by rw[j5,Wb]
def ZQ{p a b c d:Int}(h:a%p=b%p)(k:c%p=d%p):a*c%p=b*d%p:=by rw[mR,h,k,←mR]
def ZR{p:Int}{n:Nat}{a b w v:Nat→Int}(h:∀c,c<n→a c%p=b c%p)(k:∀c,c<n→w c%p=v c%p):gX n a w%p=gX n b v%p:=Ie λi hi=>ZQ (h i hi) (k i hi)
def EM{f:Nat→Int}{a:Nat}:∀{n:Nat},a<n→(∀i,i<n→i≠a→f i=0)→sm f n=f a
 |0,h,_=>by omega
 |n+1,h,hz=>by
  rw[sm];by_cases e:a=n
  ·subst e;rw[nZ (λi hi=>hz i af af)];omega
  ·rw[EM af (λi hi aN=>hz i af aN),hz n af af];omega
def ZS{f:Nat→Int}{a b:Nat}:∀{n:Nat},a<n→b<n→a≠b→(∀i,i<n→i≠a→i≠b→f i=0)→sm f n=f a+f b
 |0,h,_,_,_=>by omega
 |n+1,ha,hb,kK,hz=>by
  rw[sm];by_cases e:a=n
  ·subst e;rw[EM (show b<a by omega) (λi hi aN=>hz i af af aN)];omega
  ·by_cases e2:b=n
   ·subst e2;rw[EM (show a<b by omega) (λi hi aN=>hz i af aN af)]
   ·rw[ZS af af kK (λi hi h1 h2=>hz i af h1 h2),hz n af af af];omega
structure KI(p n:Nat)(G0 G:Nat→Nat→Int)(j:Nat)(bD free:List Nat):Prop where
 bT:∀r,r<n→∀c,0≤G r c∧G r c<p
 At:∀w,rR p n G w↔rR p n G0 w
 pl:bD.length≤n
 unit:∀k,k<bD.length→∀r,r<n→G r (bD.getD k 0)=if r=k then 1 else 0
 zero:∀r,bD.length≤r→r<n→∀c,c<j→G r c=0
 cover:∀c,c<j→(∃k,k<bD.length∧bD.getD k 0=c)∨∃q,q<free.length∧free.getD q 0=c
 pb:∀k,k<bD.length→bD.getD k 0<j
 fb:∀q,q<free.length→free.getD q 0<j
 ne:∀k q,k<bD.length→q<free.length→bD.getD k 0≠free.getD q 0
 fd:∀q q',q<free.length→q'<free.length→free.getD q 0=free.getD q' 0→q=q'
def vu(l:List Nat)(x:Nat){k:Nat}(h:k<l.length):(l++[x]).getD k 0=l.getD k 0:=by rw[aY,FV h,←aY]
def yA(l:List Nat)(x:Nat):(l++[x]).getD l.length 0=x:=be
def KI.start{p n:Nat}{G0:Nat→Nat→Int}(h:∀r,r<n→∀c,0≤G0 r c∧G0 r c<p):KI p n G0 G0 0 [] [] where
 bT:=h
 At:=λ_=>Iff.rfl
 pl:=bK _
 unit:=λk hk=>by simp at hk
 zero:=λ_ _ _ c hc=>by omega
 cover:=λc hc=>by omega
 pb:=λk hk=>by simp at hk
 fb:=λk hk=>by simp at hk
 ne:=λk _ hk=>by simp at hk
 fd:=λq _ hq=>by simp at hq
def KI.none{p n:Nat}{G0 G:Nat→Nat→Int}{j:Nat}{bD free:List Nat}(h:KI p n G0 G j bD free)(hz:∀i,bD.length≤i→i<n→G i j=0):KI p n G0 G (j+1) bD (free++[j]) where
 bT:=h.bT
 At:=h.At
 pl:=h.pl
 unit:=h.unit
 zero:=λr h1 h2 c hc=>by
  by_cases e:c=j
  ·subst e;exact hz r h1 h2
  ·exact h.zero r h1 h2 c af
 cover:=λc hc=>by
  by_cases e:c=j
  ·subst e;exact .inr ⟨free.length,by simp,yA _ _⟩
  ·rcases h.cover c af with h1|⟨q,h1,h2⟩
   ·exact .inl h1
   ·exact .inr ⟨q,by simp;omega,by rw[vu _ _ h1];exact h2⟩
 pb:=λk hk=>by have:=h.pb k hk;omega
 fb:=λq hq=>by
  simp only[ko,fk,mc]at hq;by_cases e:q=free.length
  ·subst e;rw[yA];omega
  ·rw[vu _ _ af];have:=h.fb q af;omega
 ne:=λk q hk hq=>by
  simp only[ko,fk,mc]at hq;by_cases e:q=free.length
  ·subst e;rw[yA];have:=h.pb k hk;omega
  ·rw[vu _ _ af];exact h.ne k q hk af
 fd:=λq q' hq Au e=>by
  simp only[ko,fk,mc]at hq Au;by_cases e1:q=free.length<;>by_cases e2:q'=free.length
  ·omega
  ·subst e1;rw[yA,vu _ _ af]at e;have:=h.fb q' af;omega
  ·subst e2;rw[yA,vu _ _ af]at e;have:=h.fb q af;omega
  ·rw[vu _ _ af,vu _ _ af]at e;exact h.fd q q' af af e
def ki(G:Nat→Nat→Int)(k i:Nat):Nat→Nat→Int:=λr=>if r=k then G i else if r=i then G k else G r
def kE(p:Nat)(G:Nat→Nat→Int)(k:Nat)(v:Int):Nat→Nat→Int:=λr c=>if r=k then G k c*v%(p:Int)else G r c
def pE(p:Nat)(G:Nat→Nat→Int)(k j:Nat):Nat→Nat→Int:=λr c=>if r≠k∧G r j≠0 then(G r c+((p:Int)-G r j)*G k c)%(p:Int)else G r c
def KI.some{p n:Nat}(H:bI p){G0 G:Nat→Nat→Int}{j:Nat}{bD free:List Nat}(h:KI p n G0 G j bD free){i:Nat}{v:Int}(h1:bD.length≤i)(h2:i<n)(hv:G i j*v%(p:Int)=1):
  KI p n G0 (pE p (kE p (ki G bD.length i) bD.length v) bD.length j) (j+1) (bD++[j]) free:=by
 have hp:=H.pos
 generalize hk:bD.length=k at*
 have eP:k<n:=af
 have akG:∀r,r<n→∀c,0≤ki G k i r c∧ki G k i r c<p:=by
  intro r hr c;unfold ki;split
  ·exact h.bT i h2 c
  ·split
   ·exact h.bT k eP c
   ·exact h.bT r hr c
 have akH:∀c,ki G k i k c=G i c:=λc=>by unfold ki;rw[aw ae]
 have ZT:∀k',k'<k→∀r,r<n→ki G k i r (bD.getD k' 0)=if r=k' then 1 else 0:=by
  intro k' du r hr;unfold ki;by_cases e1:r=k
  ·subst e1;rw[aw ae,h.unit k' af i h2,aq af,aq af]
  ·rw[aq e1];by_cases e2:r=i
   ·subst e2;rw[aw ae,h.unit k' af k eP,aq af,aq af]
   ·rw[aq e2,h.unit k' af r hr]
 have ZU:∀r,k≤r→r<n→∀c,c<j→ki G k i r c=0:=by
  intro r hr n8 c hc;unfold ki;split
  ·exact h.zero i af h2 c hc
  ·split
   ·exact h.zero k af eP c hc
   ·exact h.zero r af n8 c hc
 have akI:∀w,rR p n (ki G k i) w↔rR p n G w:=by
  intro w;constructor
  ·intro hs r hr;by_cases e1:r=k
   ·subst e1;have:=hs i h2;unfold ki at this;by_cases e2:i=r
    ·subst e2;simpa using this
    ·simpa[e2]using this
   ·by_cases e2:r=i
    ·subst e2;have:=hs k eP;unfold ki at this;simpa using this
    ·have:=hs r hr;unfold ki at this;simpa[e1,e2]using this
  ·intro hs r hr;unfold ki;split
   ·exact hs i h2
   ·split
    ·exact hs k eP
    ·exact hs r hr
 generalize ki G k i=G1 at*
 have ku:G1 k j*v%(p:Int)=1:=by rw[akH];exact hv
 have Ma:∀c,kE p G1 k v k c=G1 k c*v%p:=λc=>by unfold kE;rw[aw ae]
 have Mb:∀r c,r≠k→kE p G1 k v r c=G1 r c:=λr c hr=>by unfold kE;rw[aq hr]
 have SD:∀r,r<n→∀c,0≤kE p G1 k v r c∧kE p G1 k v r c<p:=by
  intro r hr c;unfold kE;split
  ·exact⟨gT _ af,il _ hp⟩
  ·exact akG r hr c
 have akJ:∀w,rR p n (kE p G1 k v) w↔rR p n G1 w:=by
  intro w;have key:gX n (kE p G1 k v k) w%(p:Int)=v*gX n (G1 k) w%p:=by rw[←akF];exact ZR (λc _=>by rw[Ma,kS]) (λ_ _=>rfl)
  constructor
  ·intro hs r hr;by_cases e:r=k
   ·subst e;have h3:=hs r hr;rw[key]at h3;have h4:G1 r j*(v*gX n (G1 r) w)%(p:Int)=0:=by rw[mR,h3,eo,df]
    rw[←j5,mR,ku,iY,kS]at h4;exact h4
   ·have:=hs r hr;have e2:kE p G1 k v r=G1 r:=funext λc=>Mb r c e
    rwa[e2]at this
  ·intro hs r hr;by_cases e:r=k
   ·subst e;rw[key,mR,hs r hr,eo,df]
   ·have e2:kE p G1 k v r=G1 r:=funext λc=>Mb r c e
    rw[e2];exact hs r hr
 have ZW:∀k',k'<k→∀r,r<n→kE p G1 k v r (bD.getD k' 0)=if r=k' then 1 else 0:=by
  intro k' du r hr;by_cases e:r=k
  ·subst e;rw[Ma,ZT k' du r hr,aq af,kJ,df]
  ·rw[Mb r _ e,ZT k' du r hr]
 have ZX:∀r,k≤r→r<n→∀c,c<j→kE p G1 k v r c=0:=by
  intro r hr n8 c hc;by_cases e:r=k
  ·subst e;rw[Ma,ZU r hr n8 c hc,kJ,df]
  ·rw[Mb r _ e,ZU r hr n8 c hc]
 have ZY:kE p G1 k v k j=1:=by rw[Ma];exact ku
 generalize kE p G1 k v=G2 at*
 have DZ:∀c,pE p G2 k j k c=G2 k c:=λc=>by unfold pE;rw[aq (λh=>h.1 ae)]
 have u9:∀r,r<n→∀c,G2 k c=0→pE p G2 k j r c=G2 r c:=by
  intro r hr c hc;unfold pE;split
  ·rw[hc,eo,nl,iU (SD r hr c).1 (SD r hr c).2]
  ·rfl
 have Z0:∀r,r<n→pE p G2 k j r j=if r=k then 1 else 0:=by
  intro r hr;by_cases e:r=k
  ·subst e;rw[DZ,aw ae,ZY]
  ·rw[aq e];unfold pE;split
   ·rw[ZY,nm,show G2 r j+((p:Int)-G2 r j)=p by omega,Int.emod_self]
   ·rename_i hn;exact gn λh3=>hn ⟨e,h3⟩
 refine⟨?_,?_,by simp;omega,?_,?_,?_,?_,?_,?_,h.fd⟩
 ·intro r hr c;unfold pE;split
  ·exact⟨gT _ af,il _ hp⟩
  ·exact SD r hr c
 ·intro w;rw[←h.At,←akI,←akJ];have key:∀r,r<n→r≠k→gX n (G2 k) w%(p:Int)=0→(gX n (pE p G2 k j r) w%(p:Int)=0↔gX n (G2 r) w%(p:Int)=0):=by
   intro r hr Bi gM;by_cases e:G2 r j=0
   ·have:pE p G2 k j r=G2 r:=funext λc=>by unfold pE;rw[aq (λh=>h.2 e)]
    rw[this]
   ·have:gX n (pE p G2 k j r) w%(p:Int)=gX n (G2 r) w%(p:Int):=by rw[ZR (b:=λc=>G2 r c+((p:Int)-G2 r j)*G2 k c) (v:=w) (λc _=>by unfold pE;rw[aw ⟨Bi,e⟩,kS]) (λ_ _=>rfl),akE,uM,mR _ (gX n (G2 k) w),gM,eo,df,nl,kS]
    rw[this]
  have oE:pE p G2 k j k=G2 k:=funext DZ;constructor
  ·intro hs r hr;have gM:=hs k eP;rw[oE]at gM;by_cases e:r=k
   ·subst e;exact gM
   ·exact(key r hr e gM).1 (hs r hr)
  ·intro hs r hr;have gM:=hs k eP;by_cases e:r=k
   ·subst e;rw[oE];exact gM
   ·exact(key r hr e gM).2 (hs r hr)
 ·intro k' du r hr;simp only[ko,fk,mc]at du;by_cases e:k'=bD.length
  ·subst e;rw[yA,hk];exact Z0 r hr
  ·rw[vu _ _ af,u9 r hr _ (by rw[ZW k' af k eP,aq af]),ZW k' af r hr]
 ·intro r h3 h4 c hc;simp only[ko,fk,mc]at h3;by_cases e:c=j
  ·subst e;rw[Z0 r h4,aq af]
  ·rw[u9 r h4 c (ZX k (bF _) eP c af),ZX r af h4 c af]
 ·intro c hc;by_cases e:c=j
  ·subst e;exact .inl ⟨bD.length,by simp,yA _ _⟩
  ·rcases h.cover c af with⟨k',h3,h4⟩|h3
   ·exact .inl ⟨k',by simp;omega,by rw[vu _ _ h3];exact h4⟩
   ·exact .inr h3
 ·intro k' du;simp only[ko,fk,mc]at du;by_cases e:k'=bD.length
  ·subst e;rw[yA];omega
  ·rw[vu _ _ af];have:=h.pb k' af;omega
 ·intro q hq;have:=h.fb q hq;omega
 ·intro k' q du hq;simp only[ko,fk,mc]at du;by_cases e:k'=bD.length
  ·subst e;rw[yA];have:=h.fb q hq;omega
  ·rw[vu _ _ af];exact h.ne k' q af hq
def KI.basis{p n:Nat}(H:bI p){G0 G:Nat→Nat→Int}{bD free:List Nat}(h:KI p n G0 G n bD free){V:Nat→Nat→Int}(v1:∀q,q<free.length→V q (free.getD q 0)=1)(v2:∀q,q<free.length→∀k,k<bD.length→V q (bD.getD k 0)=((p:Int)-G k (free.getD q 0))%p)(v3:∀q q',q<free.length→q'<free.length→q≠q'→V q (free.getD q' 0)=0):
  (∀q,q<free.length→rR p n G0 (V q))∧∀w,rR p n G0 w→∀c,c<n→w c%(p:Int)=sm (λq=>w (free.getD q 0)*V q c) free.length%p:=by
 have hp:=H.pos
 have p9:=h.pl
 have row:∀k,k<bD.length→∀d:Nat→Int,(∀q,q<free.length→d (free.getD q 0)%(p:Int)=0)→gX n (G k) d%(p:Int)=d (bD.getD k 0)%p:=by
  intro k hk d hd;let d':Nat→Int:=λc=>if c=bD.getD k 0 then d c else 0
  have e1:gX n (G k) d%(p:Int)=gX n (G k) d'%p:=Ie λc hc=>by
   show G k c*d c%(p:Int)=G k c*d' c%p;by_cases e:c=bD.getD k 0
   ·simp only[d',aw e]
   ·simp only[d',aq e,eo,df];rcases h.cover c hc with⟨k',h1,h2⟩|⟨q,h1,h2⟩
    ·have aN:k≠k':=λe2=>e (by rw[e2];exact h2.symm)
     rw[←h2,h.unit k' h1 k af,aq aN,kJ,df]
    ·rw[←h2,mR,hd q h1,eo,df]
  rw[e1];unfold gX;rw[EM (a:=bD.getD k 0) (h.pb k hk) (λi _ aN=>by simp only[d',aq aN,eo]),h.unit k hk k af,aw ae,iY];simp only[d',aw ae]
 have b1:∀q,q<free.length→rR p n G (V q):=by
  intro q hq r hr;by_cases e:r<bD.length
  ·have aN:=h.ne r q e hq;have e1:gX n (G r) (V q)%(p:Int)=sm (λc=>if c=free.getD q 0 then G r c else if c=bD.getD r 0 then V q c else 0) n%p:=Ie λc hc=>by
    by_cases e2:c=free.getD q 0
    ·simp only[aw e2];rw[e2,v1 q hq,nm]
    ·simp only[aq e2];by_cases e3:c=bD.getD r 0
     ·simp only[aw e3];rw[e3,h.unit r e r hr,aw ae,iY]
     ·simp only[aq e3,df];rcases h.cover c hc with⟨k',h1,h2⟩|⟨q',h1,h2⟩
      ·have SE:r≠k':=λe4=>e3 (by rw[e4];exact h2.symm)
       rw[←h2,h.unit k' h1 r hr,aq SE,kJ,df]
      ·have SE:q≠q':=λe4=>e2 (by rw[e4];exact h2.symm)
       rw[←h2,v3 q q' hq h1 SE,eo,df]
   rw[e1,ZS (a:=free.getD q 0) (b:=bD.getD r 0) (h.fb q hq) (h.pb r e) (λe=>aN e.symm) (λi _ h1 h2=>by rw[aq h1,aq h2])];rw[aw ae,aq aN,aw ae,v2 q hq r e,uM,kS,←uM,show G r (free.getD q 0)+((p:Int)-G r (free.getD q 0))=p by omega,Int.emod_self]
  ·unfold gX;rw[nZ (λc hc=>by rw[h.zero r af hr c hc,kJ]),df]
 refine⟨λq hq=>(h.At _).1 (b1 q hq),λw hw=>?_⟩
 have hw:=(h.At w).2 hw
 have comb:∀t,t≤free.length→rR p n G (λc=>sm (λq=>w (free.getD q 0)*V q c) t):=by
  intro t;induction t with
  |zero=>
   intro _ r hr
   unfold gX
   rw[nZ (λc hc=>by show G r c*(0:Int)=0;exact eo _),df]
  |succ t ih=>
   intro ht r hr
   have e:gX n (G r) (λc=>sm (λq=>w (free.getD q 0)*V q c) (t+1))=gX n (G r) (λc=>sm (λq=>w (free.getD q 0)*V q c) t)+w (free.getD t 0)*gX n (G r) (V t):=by rw[←ZP];rfl
   rw[e,uM,ih af r hr,mR,b1 t af r hr,eo,df];rfl
 let d:Nat→Int:=λc=>w c+(-1)*sm (λq=>w (free.getD q 0)*V q c) free.length
 have hd:rR p n G d:=by intro r hr;rw[ZP,uM,hw r hr,mR,comb free.length (bF _) r hr,eo,df];rfl
 have Z1:∀q,q<free.length→d (free.getD q 0)%(p:Int)=0:=by intro q hq;show(w (free.getD q 0)+(-1)*sm (λq'=>w (free.getD q' 0)*V q' (free.getD q 0)) free.length)%(p:Int)=0;rw[EM (a:=q) hq (λi hi aN=>by rw[v3 i q hi hq aN,eo]),v1 q hq,nm,show w (free.getD q 0)+(-1)*w (free.getD q 0)=0 by omega,df]
 intro c hc
 have qL:d c%(p:Int)=0:=by
  rcases h.cover c hc with⟨k,h1,h2⟩|⟨q,h1,h2⟩
  ·rw[←h2,←row k h1 d Z1];exact hd k af
  ·rw[←h2];exact Z1 q h1
 refine AR.2 ?_
 have e:w c-sm (λq=>w (free.getD q 0)*V q c) free.length=d c:=by show _=w c+(-1)*_;omega
 rw[e];exact qL
end Go.El
namespace Go.El
open Go Go.Proofs
def akK(row:List Int)(j:Nat)(h:j<row.length):aG Tryz.prog 239 ([]++([cS aM row]++[.c (.E dU (j:Int) 0)])) (cB (!(row.getD j 0==0))):=by refine aX Tryz.func239 ae ae ae ae ae ak ?_;refine rr ae (rr ae (hp:=aR) (aF (aL ar ae (au.of_eq ?_))));rw[bw];rfl
abbrev Mc(j:Nat):AV:= .c (.M (EG 239 [] [(false,[.E dU (j:Int) 0])]))
set_option maxHeartbeats 4000000 in
def Z2(L:List (List Int))(j:Nat)(res:Int)(lL:L.length≤1000)(hl:∀i,i<L.length→j<(L.getD i []).length)(h:(∃q:Nat,q<L.length∧res=q∧(L.getD q []).getD j 0≠0∧∀i,i<q→(L.getD i []).getD j 0=0)∨(res= -1∧∀i,i<L.length→(L.getD i []).getD j 0=0)):
  aG Tryz.prog 238 [cS (.sl aM) L,Mc j] (cI res):=by
 refine aX Tryz.func238 ae ae ae ae ae ak ?_
 refine rr ae (aj (rr ae (aK (bA (α:=Nat) (λi=>⟨[(0,cS (.sl aM) L),(1,Mc j),(7,cI L.length),(8,cI i)],[],2,[]⟩) (λi=>i≤L.length∧∀k,k<i→(L.getD k []).getD j 0=0) (λi=>L.length-i) 0 ⟨bK _,λk hk=>by omega⟩ ck ?_))))
 rintro i ⟨hi,hz⟩
 refine rr ae (aj (ax ae (λh1=>?_) (λh1=>?_)))
 ·have h1:i<L.length:=by have h1:(i:Int)<(L.length:Int):=bc h1;omega
  have hc:aG Tryz.prog 239 ([]++([cS aM (L.getD ((i:Int)).toNat [])]++[.c (.E dU (j:Int) 0)])) (cB (!((L.getD i []).getD j 0==0))):=by rw[bw];exact akK _ j (hl i h1)
  refine aC (ai (aj (aK (rr ae (rb (Ce ae ae (.inr ⟨_,_,ae,ae,ae⟩) ae hc (re ae (ax ae (λh2=>?_) (λh2=>?_)))))))))
  ·have h2:(L.getD i []).getD j 0≠0:=by simpa using h2
   refine rr ae (aF (fC (bW (ix (fC (bW (aL ar ae (au.of_eq ?_))))))));rcases h with⟨q,q1,q2,q3,q4⟩|⟨_,q4⟩
   ·have:i=q:=by
     rcases JV i q with e|e|e
     ·exact absurd (q4 i e) h2
     ·exact e
     ·exact absurd (hz q e) q3
    rw[q2,this]
   ·exact absurd (q4 i h1) h2
  ·have h2:(L.getD i []).getD j 0=0:=by simpa using h2
   refine aC (a7 (ai (rt ae (hp:=aR) (a8 (i+1) ⟨h1,λk hk=>?_⟩ (by show L.length-(i+1)<L.length-i;omega) ck))));by_cases e:k=i
   ·rw[e];exact h2
   ·exact hz k af
 ·have h1:i=L.length:=by have h1:¬(i:Int)<(L.length:Int):=bC h1;omega
  subst h1;refine bp (bu (br (bq (ai (rr ae (aF (aL ar ae (au.of_eq ?_))))))));rcases h with⟨q,q1,q2,q3,q4⟩|⟨q,_⟩
  ·exact absurd (hz q q1) q3
  ·rw[q];rfl
def mG(F:Nat→List Int):Nat→Nat→Int:=λr c=>(F r).getD c 0
def oM(F:Nat→List Int)(k i:Nat):Nat→List Int:=λr=>if r=k then F i else if r=i then F k else F r
def fB(F:Nat→List Int)(k:Nat)(x:List Int):Nat→List Int:=λr=>if r=k then x else F r
def lU(p:Nat)(v:Int)(row:List Int)(t:Nat):List Int:=(List.range row.length).map λc=>if c<t then row.getD c 0*v%(p:Int)else row.getD c 0
def lV(p:Nat)(s:Int)(row rk:List Int)(t:Nat):List Int:=(List.range row.length).map λc=>if c<t then(row.getD c 0+((p:Int)-s)*rk.getD c 0)%(p:Int)else row.getD c 0
def gY(p:Nat)(F:Nat→List Int)(k j t:Nat):Nat→List Int:=λr=>if r<t∧r≠k∧(F r).getD j 0≠0 then lV p ((F r).getD j 0) (F r) (F k) (F r).length else F r
def uk(p:Nat)(v:Int)(row:List Int)(t:Nat):(lU p v row t).length=row.length:=by simp[lU]
def xd(p:Nat)(s:Int)(row rk:List Int)(t:Nat):(lV p s row rk t).length=row.length:=by simp[lV]
def Md(f:Nat→Int){i r:Nat}(h:i<r):((List.range r).map f).getD i 0=f i:=by rw[aY,j3,ot h];rfl
def EN(p:Nat)(v:Int)(row:List Int)(t:Nat){c:Nat}(h:c<row.length):(lU p v row t).getD c 0=if c<t then row.getD c 0*v%(p:Int)else row.getD c 0:=Md _ h
def EO(p:Nat)(s:Int)(row rk:List Int)(t:Nat){c:Nat}(h:c<row.length):(lV p s row rk t).getD c 0=if c<t then(row.getD c 0+((p:Int)-s)*rk.getD c 0)%(p:Int)else row.getD c 0:=Md _ h
def Ci{a b:List Int}(hl:a.length=b.length)(h:∀j,j<a.length→a.getD j 0=b.getD j 0):a=b:=by refine nP hl (λj h1 h2=>?_);have:=h j h1;rw[aY,aY,ct h1,ct h2]at this;exact this
def akL(p:Nat)(v:Int)(row:List Int):lU p v row 0=row:=Ci (uk p v row 0) λc hc=>by rw[uk]at hc;rw[EN p v row 0 hc,aq af]
def akM(p:Nat)(v:Int)(row:List Int)(t:Nat)(ht:t<row.length):(lU p v row t).set t (row.getD t 0*v%(p:Int))=lU p v row (t+1):=Ci (by rw[gK,uk,uk]) λc hc=>by
 rw[gK,uk]at hc;rw[mq _ _ _ _ (by rw[uk];exact ht),EN p v row t hc,EN p v row (t+1) hc];by_cases e:t=c
 ·subst e;rw[aw be,aw af]
 ·by_cases e2:c<t
  ·rw[aq af,aw e2,aw af]
  ·rw[aq af,aq e2,aq af]
def akN(p:Nat)(s:Int)(row rk:List Int):lV p s row rk 0=row:=Ci (xd p s row rk 0) λc hc=>by rw[xd]at hc;rw[EO p s row rk 0 hc,aq af]
def akO(p:Nat)(s:Int)(row rk:List Int)(t:Nat)(ht:t<row.length):(lV p s row rk t).set t ((row.getD t 0+((p:Int)-s)*rk.getD t 0)%(p:Int))=lV p s row rk (t+1):=Ci (by rw[gK,xd,xd]) λc hc=>by
 rw[gK,xd]at hc;rw[mq _ _ _ _ (by rw[xd];exact ht),EO p s row rk t hc,EO p s row rk (t+1) hc];by_cases e:t=c
 ·subst e;rw[aw be,aw af]
 ·by_cases e2:c<t
  ·rw[aq af,aw e2,aw af]
  ·rw[aq af,aq e2,aq af]
def SF{p:Nat}(hp:0<p)(v:Int){row:List Int}(h:rp p row)(t:Nat):rp p (lU p v row t):=λc=>by
 by_cases hc:c<row.length
 ·rw[EN p v row t hc];split
  ·exact⟨gT _ af,il _ af⟩
  ·exact h c
 ·rw[dz _ (by rw[uk];omega)];exact⟨jH _,by omega⟩
def akP{p:Nat}(hp:0<p)(s:Int){row:List Int}(rk:List Int)(h:rp p row)(t:Nat):rp p (lV p s row rk t):=λc=>by
 by_cases hc:c<row.length
 ·rw[EO p s row rk t hc];split
  ·exact⟨gT _ af,il _ af⟩
  ·exact h c
 ·rw[dz _ (by rw[xd];omega)];exact⟨jH _,by omega⟩
def nF(p n:Nat)(F:Nat→List Int):Prop:=∀r,r<n→(F r).length=n∧rp p (F r)
def nF.sw{p n:Nat}{F:Nat→List Int}(h:nF p n F){k i:Nat}(hk:k<n)(hi:i<n):nF p n (oM F k i):=λr hr=>by
 unfold oM;split
 ·exact h i hi
 ·split
  ·exact h k hk
  ·exact h r hr
def nF.up{p n:Nat}{F:Nat→List Int}(h:nF p n F){k:Nat}{x:List Int}(hx:x.length=n∧rp p x):nF p n (fB F k x):=λr hr=>by
 unfold fB;split
 ·exact hx
 ·exact h r hr
def nF.el{p n:Nat}(hp:0<p){F:Nat→List Int}(h:nF p n F)(k j t:Nat):nF p n (gY p F k j t):=λr hr=>by
 unfold gY;split
 ·exact⟨by rw[xd];exact(h r hr).1,akP hp _ _ (h r hr).2 _⟩
 ·exact h r hr
def KI.congr{p n:Nat}{G0 G G':Nat→Nat→Int}{j:Nat}{bD free:List Nat}(h:KI p n G0 G j bD free)(e:∀r,r<n→∀c,G r c=G' r c)(hpb:∀k,k<bD.length→k<n):KI p n G0 G' j bD free where
 bT:=λr hr c=>by rw[←e r hr c];exact h.bT r hr c
 At:=λw=>by
  rw[←h.At w];constructor
  ·intro hs r hr;have:=hs r hr;rwa[show G' r=G r from funext λc=>(e r hr c).symm]at this
  ·intro hs r hr;rw[show G' r=G r from funext λc=>(e r hr c).symm];exact hs r hr
 pl:=h.pl
 unit:=λk hk r hr=>by rw[←e r hr];exact h.unit k hk r hr
 zero:=λr h1 h2 c hc=>by rw[←e r h2];exact h.zero r h1 h2 c hc
 cover:=h.cover
 pb:=h.pb
 fb:=h.fb
 ne:=h.ne
 fd:=h.fd
def Cj(F:Nat→List Int)(n j k i:Nat):Prop:=k≤i∧i<n∧(F i).getD j 0≠0∧∀q,k≤q→q<i→(F q).getD j 0=0
def Z3(F:Nat→List Int)(n j k:Nat):(∃i,Cj F n j k i)∨∀i,k≤i→i<n→(F i).getD j 0=0:=by
 by_cases h:∃i,k≤i∧i<n∧(F i).getD j 0≠0
 ·left;obtain⟨i,h1,h2,h3⟩:=h;obtain⟨m,m1,⟨m2,m3⟩,m4⟩:=least (P:=λi=>k≤i∧(F i).getD j 0≠0) i ⟨h1,h3⟩;exact⟨m,m2,by omega,m3,λq q1 q2=>gn λhn=>m4 q q2 ⟨q1,hn⟩⟩
 ·right;exact λi h1 h2=>gn λhn=>h ⟨i,h1,h2,hn⟩
def EP(p:Nat)(F:Nat→List Int)(n j k i:Nat):Nat→List Int:=
 gY p (fB (oM F k i) k (lU p (gW ((F i).getD j 0).toNat p:Nat) (F i) n)) k j n
open Classical in
noncomputable def ER(p n j:Nat)(S:(Nat→List Int)×List Nat×List Nat):(Nat→List Int)×List Nat×List Nat:=
 if h:∃i,Cj S.1 n j S.2.1.length i then(EP p S.1 n j S.2.1.length (Classical.choose h),S.2.1++[j],S.2.2)else(S.1,S.2.1,S.2.2++[j])
noncomputable def gk(p n:Nat)(F:Nat→List Int):Nat→(Nat→List Int)×List Nat×List Nat
 |0=>(F,[],[])
 |j+1=>ER p n j (gk p n F j)
def Cj.uniq{F:Nat→List Int}{n j k i i':Nat}(h:Cj F n j k i)(h':Cj F n j k i'):i=i':=by
 rcases JV i i' with e|e|e
 ·exact absurd (h'.2.2.2 i h.1 e) h.2.2.1
 ·exact e
 ·exact absurd (h.2.2.2 i' h'.1 e) h'.2.2.1
def Z4{p n j:Nat}{S:(Nat→List Int)×List Nat×List Nat}{i:Nat}(h:Cj S.1 n j S.2.1.length i):ER p n j S=(EP p S.1 n j S.2.1.length i,S.2.1++[j],S.2.2):=by have hx:∃i,Cj S.1 n j S.2.1.length i:=⟨i,h⟩;unfold ER;rw[dif_pos hx,(xy hx).uniq h]
def Z5{p n j:Nat}{S:(Nat→List Int)×List Nat×List Nat}(h:∀i,S.2.1.length≤i→i<n→(S.1 i).getD j 0=0):ER p n j S=(S.1,S.2.1,S.2.2++[j]):=by unfold ER;rw[dif_neg];rintro⟨i,h1,h2,h3,_⟩;exact h3 (h i h1 h2)
def akR{p n:Nat}(H:bI p){F:Nat→List Int}(h:nF p n F){k i j:Nat}(hk:k<n)(hi:i<n):∀r,r<n→∀c,pE p (kE p (ki (mG F) k i) k (gW ((F i).getD j 0).toNat p:Nat)) k j r c=mG (EP p F n j k i) r c:=by
 unfold EP;generalize ((gW ((F i).getD j 0).toNat p:Nat):Int)=v;intro r hr c;have e1:∀r c,ki (mG F) k i r c=mG (oM F k i) r c:=λr c=>by
  unfold ki mG oM;split
  ·rfl
  ·split<;>rfl
 have hs:=h.sw hk hi;have e2:∀r,r<n→∀c,kE p (ki (mG F) k i) k v r c=mG (fB (oM F k i) k (lU p v (F i) n)) r c:=by
  intro r hr c;unfold kE;by_cases e:r=k
  ·rw[aw e,e1];unfold mG fB;rw[aw e];have e3:oM F k i k=F i:=by unfold oM;rw[aw ae]
   rw[e3];by_cases hc:c<n
   ·rw[EN p v (F i) n (by rw[(h i hi).1];exact hc),aw hc]
   ·rw[dz (F i) (by rw[(h i hi).1];omega),dz _ (by rw[uk,(h i hi).1];omega),kJ,df]
  ·rw[aq e,e1];unfold mG fB;rw[aq e]
 have hu:nF p n (fB (oM F k i) k (lU p v (F i) n)):=hs.up ⟨by rw[uk];exact(h i hi).1,SF xw v (h i hi).2 n⟩;rw[show pE p (kE p (ki (mG F) k i) k v) k j r c=if r≠k∧kE p (ki (mG F) k i) k v r j≠0 then(kE p (ki (mG F) k i) k v r c+((p:Int)-kE p (ki (mG F) k i) k v r j)*kE p (ki (mG F) k i) k v k c)%(p:Int)else kE p (ki (mG F) k i) k v r c from ae];rw[e2 r hr,e2 r hr,e2 k hk];generalize fB (oM F k i) k (lU p v (F i) n)=B at*;unfold mG gY;by_cases oZ:r≠k∧(B r).getD j 0≠0
 ·rw[aw oZ,aw ⟨hr,oZ⟩];by_cases hc:c<n
  ·rw[EO p _ _ _ _ (by rw[(hu r hr).1];exact hc),aw (by rw[(hu r hr).1];exact hc)]
  ·rw[dz (B r) (i:=c) (by rw[(hu r hr).1];omega),dz (B k) (i:=c) (by rw[(hu k hk).1];omega),dz (lV _ _ _ _ _) (i:=c) (by rw[xd,(hu r hr).1];omega),eo];simp
 ·rw[aq oZ,aq (λhx=>oZ hx.2)]
def SH{p n:Nat}(H:bI p){F:Nat→List Int}(h:nF p n F):∀j,j≤n→nF p n (gk p n F j).1∧KI p n (mG F) (mG (gk p n F j).1) j (gk p n F j).2.1 (gk p n F j).2.2∧(gk p n F j).2.1.length≤j∧(gk p n F j).2.2.length≤j
 |0,_=>⟨h,KI.start λr hr c=>(h r hr).2 c,bF _,bF _⟩
 |j+1,hj=>by
  obtain⟨i1,i2,i3,i4⟩:=SH H h j af;have hp:0<p:=xw;rw[gk];rcases Z3 (gk p n F j).1 n j (gk p n F j).2.1.length with⟨i,hi⟩|hz
  ·rw[Z4 hi];obtain⟨a1,a2,a3,_⟩:=hi;have Z6:=(i1 i a2).2 j;have eP:(gk p n F j).2.1.length<n:=af;have hinv:=Ag H.hp H.le Z6.1 Z6.2 a3;rw[bw]at hinv;have hk:=i2.some H a1 a2 (v:=((gW (((gk p n F j).1 i).getD j 0).toNat p:Nat):Int)) hinv;refine⟨?_,hk.congr (akR H i1 eP a2) (λk hk=>?_),?_,?_⟩
   ·exact((i1.sw eP a2).up ⟨by rw[uk];exact(i1 i a2).1,SF hp _ (i1 i a2).2 n⟩).el hp _ _ _
   ·simp only[ko,fk,mc]at hk;omega
   ·simp only[ko,fk,mc];omega
   ·show(gk p n F j).2.2.length≤j+1;omega
  ·rw[Z5 hz];refine⟨i1,i2.none hz,by show(gk p n F j).2.1.length≤j+1;omega,?_⟩;simp only[ko,fk,mc];omega
def mI(p n:Nat)(F:Nat→List Int)(bD:List Nat)(f:Nat):Nat→List Int
 |0=>(List.replicate n 0).set f 1
 |t+1=>(mI p n F bD f t).set (bD.getD t 0) (((p:Int)-(F t).getD f 0)%(p:Int))
def If(p n:Nat)(F:Nat→List Int)(bD:List Nat)(f:Nat):∀t,(mI p n F bD f t).length=n
 |0=>by simp[mI]
 |t+1=>by rw[mI,gK,If p n F bD f t]
def Z7{p n:Nat}(H:bI p)(F:Nat→List Int)(bD:List Nat)(f:Nat):∀t,rp p (mI p n F bD f t)
 |0=>Hx (Rn H.pos n) f ak xw
 |t+1=>Hx (Z7 H F bD f t) _ (gT _ (by have:=H.pos;omega)) (il _ H.pos)
def Me{p n:Nat}{F:Nat→List Int}{bD:List Nat}{f x:Nat}:∀t,(∀k,k<t→bD.getD k 0≠x)→(∀k,k<t→bD.getD k 0<n)→f<n→x<n→(mI p n F bD f t).getD x 0=if f=x then 1 else 0
 |0,_,_,hf,hx=>by
  rw[mI,mq _ _ _ _ (by simpa using hf)];by_cases e:f=x
  ·rw[aw (by first|exact e|exact ov e),aw e]
  ·rw[aq (by first|exact e| (intro h;exact e (bc h))),aq e,aY,mM,aw hx];rfl
 |t+1,h,hb,hf,hx=>by have:=h t af;rw[mI,mq _ _ _ _ (by rw[If];exact hb t af),aq (by first|exact this| (intro h;exact this (bc h)))];exact Me t (λk hk=>h k af) (λk hk=>hb k af) hf hx
def Z8{p n:Nat}{F:Nat→List Int}{bD:List Nat}{f k:Nat}:∀t,k<t→(∀k,k<t→bD.getD k 0<n)→(∀k',k<k'→k'<t→bD.getD k' 0≠bD.getD k 0)→(mI p n F bD f t).getD (bD.getD k 0) 0=((p:Int)-(F k).getD f 0)%(p:Int)
 |0,h,_,_=>by omega
 |t+1,h,hb,hd=>by
  rw[mI,mq _ _ _ _ (by rw[If];exact hb t af)];by_cases e:k=t
  ·subst e;rw[aw (by first|rfl|simp)]
  ·have:=hd t af af;rw[aq (by first|exact this| (intro h;exact this (bc h)))];exact Z8 t af (λk hk=>hb k af) (λk' h1 h2=>hd k' h1 af)
noncomputable def jU(p n:Nat)(F:Nat→List Int):List (List Int):=(gk p n F n).2.2.map λf=>mI p n (gk p n F n).1 (gk p n F n).2.1 f (gk p n F n).2.1.length
def Z9{p n:Nat}(H:bI p){F:Nat→List Int}(h:nF p n F):(jU p n F).length≤n∧(∀v∈jU p n F,v.length=n∧rp p v∧(∃i,v.getD i 0≠0)∧rR p n (mG F) (λc=>v.getD c 0))∧
  ∀w,rR p n (mG F) w→∃x:Nat→Int,∀c,c<n→w c%(p:Int)=sm (λq=>x q*((jU p n F).getD q []).getD c 0) (jU p n F).length%p:=by
 obtain⟨h1,h2,h3,h4⟩:=SH H h n (bF _)
 unfold jU
 generalize gk p n F n=S at*
 obtain⟨B,bD,free⟩:=S
 simp only at h1 h2 h3 h4⊢
 have hpd:∀k k',k<bD.length→k'<bD.length→bD.getD k 0=bD.getD k' 0→k=k':=by
  intro k k' hk du e;have e1:=h2.unit k hk k af;have e2:=h2.unit k' du k af;rw[e,e2,aw ae]at e1;by_cases hx:k=k'
  ·exact hx
  ·rw[aq hx]at e1;omega
 let V:Nat→Nat→Int:=λq c=>(mI p n B bD (free.getD q 0) bD.length).getD c 0
 obtain⟨b1,b2⟩:=h2.basis H (V:=V) (λq hq=>by
   show(mI p n B bD (free.getD q 0) bD.length).getD (free.getD q 0) 0=1
   rw[Me _ (λk hk=>h2.ne k q hk hq) (λk hk=>h2.pb k hk) (h2.fb q hq) (h2.fb q hq),aw ae])
  (λq hq k hk=>Z8 _ hk (λk hk=>h2.pb k hk) (λk' e1 e2 e3=>by have:=hpd k' k e2 hk e3;omega))
  (λq q' hq Au aN=>by show(mI p n B bD (free.getD q 0) bD.length).getD (free.getD q' 0) 0=0;rw[Me _ (λk hk=>h2.ne k q' hk Au) (λk hk=>h2.pb k hk) (h2.fb q hq) (h2.fb q' Au),aq (λe=>aN (h2.fd q q' hq Au e))])
 refine⟨by rw[dJ];exact h4,λv hv=>?_,λw hw=>⟨λq=>w (free.getD q 0),λc hc=>?_⟩⟩
 ·obtain⟨f,hf,rfl⟩:=nQ.1 hv;obtain⟨q,hq,e⟩:=V2 hf;have e2:free.getD q 0=f:=by rw[aY,ct hq,De,e]
  refine⟨If _ _ _ _ _ _,Z7 H _ _ _ _,⟨f,?_⟩,?_⟩
  ·rw[←e2,Me _ (λk hk=>h2.ne k q hk hq) (λk hk=>h2.pb k hk) (h2.fb q hq) (h2.fb q hq),aw ae];decide
  ·rw[←e2];exact b1 q hq
 ·rw[b2 w hw c hc,dJ];congr 1;refine fT λq hq=>?_
  congr 1;show(mI p n B bD (free.getD q 0) bD.length).getD c 0=_;congr 1;rw[aY,aY,j3,ct hq];rfl
end Go.El
namespace Go.El
open Go Go.RowKit
def mw(A B id:Nat):Nat:=cond (Nat.beq id A) B id
def qM{A B id:Nat}(h:id≠A):mw A B id=id:=by
 unfold mw;cases e:Nat.beq id A with
 |true=>exact absurd (Da e) h
 |false=>rfl
def Mf(A B:Nat):mw A B A=B:=by unfold mw;rw[O5];rfl
def ES{α:Type}{A B:Nat}{m:List (Nat×α)}(hB:ao B m=none):∀id b6,(ao id m).isSome=true→(ao b6 m).isSome=true→mw A B id=mw A B b6→id=b6:=by
 intro id b6 h h' e;by_cases h1:id=A<;>by_cases h2:b6=A
 ·rw[h1,h2]
 ·subst h1;rw[Mf,qM h2]at e;subst e;rw[hB]at h';cases h'
 ·subst h2;rw[Mf,qM h1]at e;subst e;rw[hB]at h;cases h
 ·rwa[qM h1,qM h2]at e
def SI{α:Type}{t k:Nat}{l:List (Nat×α)}(h:t≠k):ao k (wC t l)=ao k l:=by rw[GJ,aq h]
def SJ{r:Nat}{E:TypeId}{T:ET}{f:Nat→List T.den}{id:Nat}(h:r<id):ao id (gj r E T f)=none:=by
 cases e:ao id (gj r E T f)with
 |none=>rfl
 |some b=>obtain⟨i,h1,h2,_⟩:=LZ e;omega
def akT{o:Nat}{E0:TypeId}{r:Nat}{E:TypeId}{T:ET}{f:Nat→List T.den}{id:Nat}(h:r<id)(ho:o≠id):ao id (eX o E0 r E T f)=none:=by unfold eX;rw[bH ho];exact SJ h
def Z'{conc:List (Nat×aJ)}{o:Nat}{E0:TypeId}{r:Nat}{E:TypeId}{T:ET}{f:Nat→List T.den}{id:Nat}(h:r<id)(ho:o≠id)(hc:ao id conc=none):ao id (conc++eX o E0 r E T f)=none:=by rw[yz,hc,akT h ho];rfl
def EU{K:Nat}{conc:List (Nat×aJ)}{o:Nat}{E0:TypeId}{r:Nat}{E:TypeId}{T:ET}{f:Nat→List T.den}(h:nw K conc=true)(ho:o<K)(hr:1+r≤K):eO K (conc++eX o E0 r E T f):=eO.of (Se h (Sk ho hr))
def SK{α:Type}{f:α→α}:∀{l:List α},(∀x∈l,f x=x)→l.map f=l
 |[],_=>rfl
 |x::l,h=>by rw[jF,h x be,SK λy hy=>h y oT]
def SL(A B:Nat){sl:List (Nat×AV)}{mem:List (Nat×aJ)}{nx:Nat}{gd:List (Nat×Bool)}{sl':List (Nat×AV)}{conc:List (Nat×aJ)}{nx':Nat}{gd':List (Nat×Bool)}{o:Nat}{E0:TypeId}{r:Nat}{E:TypeId}{T:ET}{f:Nat→List T.den}(hs:Ca (mw A B) sl sl')(hm:jS (mw A B) mem conc)
  (EI:ao o mem=some (.box E0 0 ((List.range r).map λi=> .X (1+i)))) (hf:∀i,i<r→ao (1+i) mem=some (.vec E T (f i))) (hr:r≤900) (hA:900<A) (hAo:o≠A) (hB:ao B conc=none) (hB9:900<B) (hBo:o≠B) (ho:o<1000000*nx') (hb:nw (1000000*nx') conc=true:=by rfl) (qJ:sK (1000000*nx') sl'=true:=by rfl) (eS:Nat.ble 1 nx'=true:=by rfl):Wk ⟨sl,mem,nx,gd⟩ ⟨sl',conc++eX o E0 r E T f,nx',gd'⟩:=by
 have akW:=cT eS
 refine xc (mw A B) hs (jS.app hm ⟨⟨.box E0 0 ((List.range r).map λi=> .X (1+i)),?_,dd.of_eq ?_⟩,jS.gj λi hi=>?_⟩) (qM af) (ES (Z' af hBo hB)) (show eO (1000000*nx') _ from EU hb ho af) qJ eS
 ·rw[qM hAo];exact EI
 ·refine az (aJ.box E0 0) ?_;refine(SK λc hc=>?_).symm;obtain⟨i,hi,rfl⟩:=nQ.1 hc;have:=kR.1 hi;show C.X (mw A B (1+i))=_;rw[qM af]
 ·rw[qM af];exact hf i hi
def xe(k i id:Nat):Nat:=if id=1+k then 1+i else if id=1+i then 1+k else id
def akX(k i:Nat){a b:Nat}(h:xe k i a=xe k i b):a=b:=by unfold xe at h;split at h<;>split at h<;>(try split at h)<;>(try split at h)<;>omega
def Ck{k i id:Nat}(h1:id≠1+k)(h2:id≠1+i):xe k i id=id:=by unfold xe;rw[aq h1,aq h2]
def akY(k i:Nat){sl:List (Nat×AV)}{mem:List (Nat×aJ)}{nx:Nat}{gd:List (Nat×Bool)}{sl':List (Nat×AV)}{conc:List (Nat×aJ)}{nx':Nat}{gd':List (Nat×Bool)}{o:Nat}{E0:TypeId}{r:Nat}{E:TypeId}{T:ET}{f g:Nat→List T.den}(hk:k<r)(hi:i<r)(hs:Ca (xe k i) sl sl')(hm:jS (xe k i) mem conc)
  (EI:ao o mem=some (.box E0 0 ((((List.range r).map λq=>C.X (1+q)).set k (.X (1+i))).set i (.X (1+k))))) (hf:∀q,q<r→ao (1+q) mem=some (.vec E T (f q))) (hg:∀q,q<r→g q=if q=k then f i else if q=i then f k else f q) (hr:r≤900) (ho9:900<o) (ho:o<1000000*nx') (hb:nw (1000000*nx') conc=true:=by rfl) (qJ:sK (1000000*nx') sl'=true:=by rfl) (eS:Nat.ble 1 nx'=true:=by rfl):Wk ⟨sl,mem,nx,gd⟩ ⟨sl',conc++eX o E0 r E T g,nx',gd'⟩:=by
 have akW:=cT eS
 refine xc (xe k i) hs (jS.app hm ⟨⟨.box E0 0 ((((List.range r).map λq=>C.X (1+q)).set k (.X (1+i))).set i (.X (1+k))),?_,dd.of_eq ?_⟩,jS.gj λq hq=>?_⟩) (Ck af af) (λ_ _ _ _ h=>akX k i h) (show eO (1000000*nx') _ from EU hb ho af) qJ eS
 ·rw[Ck af af];exact EI
 ·refine az (aJ.box E0 0) (nP be λq h1 h2=>?_);simp only[dJ,A1]at h2;simp only[List.getElem_set,si,A0,n7];unfold xe;by_cases e1:q=i
  ·subst e1;by_cases e2:q=k
   ·subst e2;simp
   ·rw[aw ae,aq af,aw ae]
  ·by_cases e2:q=k
   ·subst e2;rw[aq af,aw ae,aw ae]
   ·rw[aq af,aq af,aq af,aq af]
 ·rw[hg q hq];unfold xe;by_cases e1:q=k
  ·subst e1;rw[aw ae,aw ae];exact hf i hi
  ·rw[aq af,aq e1];by_cases e2:q=i
   ·subst e2;rw[aw ae,aw ae];exact hf k hk
   ·rw[aq af,aq e2];exact hf q hq
def oN(r i:Nat):List C:=(List.range i).map (λj=>C.X (1+j))++List.replicate (r-i) (.V (.slice none 0 0))
def akZ(r i:Nat)(h:i≤r):(oN r i).length=r:=by unfold oN;simp;omega
def ak0(r:Nat):oN r r=(List.range r).map λj=>C.X (1+j):=by unfold oN;rw[iG,wa,kp]
def ak1(r:Nat):oN r 0=List.replicate r (.V (.slice none 0 0)):=by unfold oN;simp
def ak2(r i:Nat)(h:i<r):(oN r i).set i (.X (1+i))=oN r (i+1):=by unfold oN;rw[pS _ _ be,show r-i=(r-(i+1))+1 by omega,v9,pW,dZ];simp
def aac{α β:Type}(f:α→β)(c:α):∀(l:List α)(i:Nat),(l.set i c).map f=(l.map f).set i (f c)
 |[],_=>rfl
 |_::_,0=>rfl
 |x::l,i+1=>by rw[JS,jF,jF,JS,aac f c l i]
def aad{r i A B:Nat}(h:i<A):(oN r i).map (n7 (mw A B))=oN r i:=SK λc hc=>by
 rcases bX.1 hc with h1|h1
 ·obtain⟨j,hj,rfl⟩:=nQ.1 h1;have:=kR.1 hj;show C.X (mw A B (1+j))=_;rw[qM af]
 ·rw[JP h1];rfl
def aae{r i K:Nat}(h:1+i≤K):∀j∈cA (oN r i),j<K:=Sb λc hc id al=>by
 rcases bX.1 hc with h1|h1
 ·obtain⟨j,hj,rfl⟩:=nQ.1 h1;have:=kR.1 hj;simp only[C.aD,jw]at al;omega
 ·rw[JP h1]at al;cases al
end Go.El
namespace Go.El
open Go Go.Proofs
def zl(l:List Nat):List Int:=l.map (λ(x:Nat)=>((x:Nat):Int))
def Mg(l:List Nat):(zl l).length=l.length:=dJ _
def aaf(l:List Nat)(x:Nat):zl l++[(x:Int)]=zl (l++[x]):=by simp[zl]
def aag(l:List Nat)(i:Nat):(zl l).getD i 0=(l.getD i 0:Nat):=by unfold zl;rw[aY,j3,aY];cases l[i]? <;>rfl
def tb{r j:Nat}(h:j<r):((List.range r).map λi=>C.X (1+i))[0+((j:Int)).toNat*1]? =some (.X (1+j)):=by rw[bw,eR,kT,j3,ot h];rfl
def ak3(p:Nat)(F:Nat→List Int)(k j t:Nat):gY p F k j t t=F t:=by unfold gY;rw[aq (λh=>by omega)]
def ak4(p:Nat)(F:Nat→List Int)(k j t:Nat):gY p F k j t k=F k:=by unfold gY;rw[aq (λh=>h.2.1 ae)]
def ak5(p:Nat)(F:Nat→List Int)(k j:Nat):gY p F k j 0=F:=funext λr=>by unfold gY;rw[aq (λh=>by omega)]
def aah(p:Nat)(F:Nat→List Int){k j t:Nat}(h:¬(t≠k∧(F t).getD j 0≠0)):gY p F k j (t+1)=gY p F k j t:=funext λr=>by
 unfold gY;by_cases e:r=t
 ·subst e;rw[aq (λh2=>h h2.2),aq (λh2=>h h2.2)]
 ·by_cases h2:r<t∧r≠k∧(F r).getD j 0≠0
  ·rw[aw h2,aw ⟨by omega,h2.2⟩]
  ·rw[aq h2,aq (λh3=>h2 ⟨by omega,h3.2⟩)]
def ak6(p:Nat)(F:Nat→List Int){k j t:Nat}(h:t≠k∧(F t).getD j 0≠0):fB (gY p F k j t) t (lV p ((F t).getD j 0) (F t) (F k) (F t).length)=gY p F k j (t+1):=funext λr=>by
 unfold fB gY;by_cases e:r=t
 ·subst e;rw[aw ae,aw ⟨by omega,h⟩]
 ·rw[aq e];by_cases h2:r<t∧r≠k∧(F r).getD j 0≠0
  ·rw[aw h2,aw ⟨by omega,h2.2⟩]
  ·rw[aq h2,aq (λh3=>h2 ⟨by omega,h3.2⟩)]
def Av(F:Nat→List Int)(k:Nat)(x:List Int):fB F k x k=x:=by unfold fB;rw[aw ae]
def Cl(F:Nat→List Int){k q:Nat}(x:List Int)(h:q≠k):fB F k x q=F q:=by unfold fB;rw[aq h]
def aai(F:Nat→List Int)(k:Nat):fB F k (F k)=F:=funext λq=>by
 unfold fB;split
 ·rename_i e;rw[e]
 ·rfl
set_option maxRecDepth 100000 in
set_option maxHeartbeats 8000000 in
def ak7{p n:Nat}(H:bI p){F:Nat→List Int}(hF:nF p n F)(DB:1≤n)(hn:n≤200):EH Tryz.prog 183 [.c (.L 1000 0 n (some n)),cU p] (eX 1000 22 n 25 aM F) (cS (.sl aM) (jU p n F)):=by
 have iJ:=H.hp.1;have DR:=H.le;have vi:(p:Int)≠0:=af;refine ZG 1 Tryz.func183 ae ae ae (λid al=>by simp[fH,AV.aD,C.aD]at al;omega) (eO.of (Sk af af)) ae ak ?_;refine rr ae (rb (iR ae ae ah (re ae (rr ae (aj (rr ae ?_))))));refine aK (bA (α:=Nat) (λj=>⟨[(0,.c (.L 1000 0 n (some n))),(1,cU p),(5,cI n),(6,.c (.X 5000000)),(7,.c (.X 6000000)),(25,cI n),(26,cI j)],[(5000000,.vec 3 dU (zl (gk p n F j).2.1)),(6000000,.vec 3 dU (zl (gk p n F j).2.2))]++eX 1000 22 n 25 aM (gk p n F j).1,7,[]⟩) (λj=>j≤n) (λj=>n-j) 0 (bK _) ?_ ?_)
 ·refine Wk.trans (s9 5000000 3 dU (sl':=[(0,.c (.L 1000 0 n (some n))),(1,cU p),(5,cI n),(6,.c (.X 5000000)),(7,.c (.V (.slice none 0 0))),(25,cI n),(26,cI 0)]) (m2:=eX 1000 22 n 25 aM F) (nx':=6) (gd':=[]) ⟨.inl (sR ae),.inl (sR ae),.inl (sR ae),.inr ⟨ae,ae⟩,.inl (sR ae),.inl (sR ae),.inl (sR ae),ah⟩ ⟨bR ae,iM.gj λq hq=>cz⟩ ae (EU (conc:=[(5000000,.vec 3 dU [])]) ae af af)) ?_;refine Wk.trans (s9 6000000 3 dU (sl':=[(0,.c (.L 1000 0 n (some n))),(1,cU p),(5,cI n),(6,.c (.X 5000000)),(7,.c (.X 6000000)),(25,cI n),(26,cI 0)]) (m2:=(5000000,.vec 3 dU [])::eX 1000 22 n 25 aM F) (nx':=7) (gd':=[]) ⟨.inl (sR ae),.inl (sR ae),.inl (sR ae),.inl (sR ae),.inr ⟨ae,ae⟩,.inl (sR ae),.inl (sR ae),ah⟩ ⟨bR ae,bR ae,iM.gj λq hq=>cz⟩ ae (EU (conc:=[(6000000,.vec 3 dU []),(5000000,.vec 3 dU [])]) ae af af)) ?_;exact iy ⟨sR ae,sR ae,sR ae,sR ae,sR ae,sR ae,sR ae,ah⟩ ⟨bE ae ae,bE ae ae,ah⟩ ae (λq hq=>cz) af
 intro j hj;obtain⟨i1,i2,i3,i4⟩:=SH H hF j hj;refine rr ae (aj (ax ae (λh=>?_) (λh=>?_)))
 ·have Aw:j<n:=by have h:(j:Int)<(n:Int):=bc h;omega
  have hS:gk p n F (j+1)=ER p n j (gk p n F j):=rfl;generalize EV:gk p n F j=S at*;obtain⟨B,bD,free⟩:=S;simp only at i1 i2 i3 i4⊢;have SM:=Mg bD;have hzf:=Mg free;refine aC (ai (aj (aK (rr ae (rr ae ?_)))));refine dv (ako 8001000 (T:=dU) (x:=(j:Int)) (sl':=[(0,.c (.L 1000 0 n (some n))),(1,cU p),(5,cI n),(6,.c (.X 5000000)),(7,.c (.X 6000000)),(25,cI n),(26,cI j),(8,.c (.E dU (j:Int) 0)),(9,cI bD.length)]) (mem':=[(5000000,.vec 3 dU (zl bD)),(6000000,.vec 3 dU (zl free))]++eX 1000 22 n 25 aM B) (nx':=10) (gd':=[]) ae ⟨.inl (sR ae),.inl (sR ae),.inl (sR ae),.inl (sR ae),.inl (sR ae),.inl (sR ae),.inl (sR ae),.inr ⟨0,ae,ae⟩,.inl ⟨_,ae,au.of_eq (az (λz:Nat=>cI (z:Int)) SM)⟩,ah⟩ (iM.app ⟨bR ae,bR ae,ah⟩ ⟨bR ae,iM.gj λq hq=>cz⟩) (Z' af af ae) (EU ae af af)) ?_;have p9:=i2.pl;obtain⟨L,hL⟩:∃L,L=(List.range (n-((bD.length:Nat):Int).toNat)).map λi=>B ((if n=((bD.length:Nat):Int).toNat then 0 else 0+((bD.length:Nat):Int).toNat*1)+i):=⟨_,ae⟩
  have Yx:L.length=n-bD.length:=by rw[hL,bw];simp
  have tX:∀i,i<n-bD.length→L.getD i []=B (bD.length+i):=λi hi=>by rw[hL,bw,aY,j3,ot hi,aq af,eR,kT];rfl
  have xf:(if n=((bD.length:Nat):Int).toNat then 0 else 0+((bD.length:Nat):Int).toNat*1)+(n-((bD.length:Nat):Int).toNat)≤n:=by rw[bw];split<;>omega
  rcases Z3 B n j bD.length with⟨i,hi⟩|hz
  ·have Mh:gk p n F (j+1)=(EP p B n j bD.length i,bD++[j],free):=hS.trans (Z4 hi);obtain⟨a1,a2,a3,a4⟩:=hi;have Ig:aG Tryz.prog 238 [cS (.sl aM) L,Mc j] (.c (.I .i64 ((i-bD.length:Nat):Int))):=Z2 L j _ af (λi hi=>by rw[tX i af,(i1 _ af).1];exact Aw) (.inl ⟨i-bD.length,by omega,ae,by rw[tX _ af,show bD.length+(i-bD.length)=i by omega];exact a3,λq hq=>by rw[tX q af];exact a4 _ af af⟩);rw[hL]at Ig;generalize hk:bD.length=k at*;have eP:k<n:=af;refine rb (iR ae ae ?_ (L8 ae ae ae (ZL (z:= .I .i64 ((i-k:Nat):Int)) ae ae ae (λq hq=>cz) af xf (bF _) Ig (λ_ _ _ h=>h) (re ae ?_))))
   ·simp only[Pr.an,Pr.h,true_and,and_true];omega
   refine aj (rr ae (ax ae (λh1=>?_) (λh1=>aC (ai ?_))))
   ·exfalso;have h1:(k:Int)+((i-k:Nat):Int)<(k:Int):=bc h1;omega
   refine dv (iy (sl':=[(0,.c (.L 1000 0 n (some n))),(1,cU p),(5,cI n),(6,.c (.X 5000000)),(7,.c (.X 6000000)),(25,cI n),(26,cI j),(8,.c (.E dU (j:Int) 0)),(9,cI k),(10,cI i)]) (conc:=[(5000000,.vec 3 dU (zl bD)),(6000000,.vec 3 dU (zl free))]) (nx':=12) (gd':=[]) (o:=1000) (E0:=22) (r:=n) (E:=25) (T:=aM) (f:=B) ⟨sR ae,sR ae,sR ae,sR ae,sR ae,sR ae,sR ae,sR ae,sR ae,sE ae ?_,ah⟩ ⟨bR ae,bR ae,ah⟩ ae (λq hq=>cz) af) ?_
   ·exact az cI (show(k:Int)+((i-k:Nat):Int)=(i:Int)by omega)
   have pZ:(0:Int)≤(k:Int)∧(k:Int)<(n:Int):=⟨by omega,by omega⟩;have uo:(0:Int)≤(i:Int)∧(i:Int)<(n:Int):=⟨by omega,by omega⟩;refine rb (iR ae ae uo (mE ar (c:= .X (1+i)) ae ae (tb a2) ae (iR ae ae pZ (mE ar (c:= .X (1+k)) ae ae (tb eP) ae (iR ae ae pZ (EE ar ae ae ae cz ae ?_ (iR ae ae ?_ (EE ar ae ae ae cz ae ?_ (re ae ?_ (ho:=qK gI))))))))))
   ·show 0+((k:Int)).toNat*1<_;simp;omega
   ·exact uo
   ·show 0+((i:Int)).toNat*1<_;simp;omega
   refine dv (akY k i (sl':=[(0,.c (.L 1000 0 n (some n))),(1,cU p),(5,cI n),(6,.c (.X 5000000)),(7,.c (.X 6000000)),(25,cI n),(26,cI j),(8,.c (.E dU (j:Int) 0)),(9,cI k)]) (conc:=[(5000000,.vec 3 dU (zl bD)),(6000000,.vec 3 dU (zl free))]) (nx':=13) (gd':=[]) (o:=1000) (E0:=22) (r:=n) (E:=25) (T:=aM) (f:=B) (g:=oM B k i) eP a2 ?_ ?_ ?_ (λq hq=>cz) (λq hq=>rfl) af af af) ?_
   ·refine⟨sE ae ?_,sR ae,sR ae,sE ae ?_,sE ae ?_,sR ae,sR ae,sR ae,sR ae,ah⟩
    ·exact az (λz=>AV.c (.L z 0 n (some n))) (Ck af af).symm
    ·exact az (λz=>AV.c (.X z)) (Ck af af).symm
    ·exact az (λz=>AV.c (.X z)) (Ck af af).symm
   ·refine⟨⟨_,by rw[Ck af af];rfl,dd.refl _⟩,⟨_,by rw[Ck af af];rfl,dd.refl _⟩,ah⟩
   ·refine az (λz=>some (aJ.box 22 0 z)) ?_;rw[bw,bw,eR,kT,eR,kT]
   have hG:=i1.sw eP a2;have hGk:oM B k i k=B i:=by unfold oM;rw[aw ae]
   have BN:=(i1 i a2).2 j;have hinv:aG Tryz.prog 124 [cU ((oM B k i k).getD ((j:Int)).toNat 0),cU p] (.t [(false,[.I .u64 (gW ((B i).getD j 0).toNat p:Nat)]),(false,[.I .i64 0])]):=by rw[bw,hGk];have:=Lq ((B i).getD j 0) p BN a3 af af;rwa[bw]at this
   have hv:=Rl ((B i).getD j 0).toNat (p-2) p af;have ak8:EP p B n j k i=gY p (fB (oM B k i) k (lU p (gW ((B i).getD j 0).toNat p:Nat) (oM B k i k) n)) k j n:=by rw[hGk];rfl
   have hv:(0:Int)≤((gW ((B i).getD j 0).toNat p:Nat):Int)∧((gW ((B i).getD j 0).toNat p:Nat):Int)<p:=by unfold gW;omega
   rw[ak8]at Mh;generalize ((gW ((B i).getD j 0).toNat p:Nat):Int)=v at*;generalize oM B k i=G at*;have yB:=λq(hq:q<n)=>(hG q hq).1
   have hGr:=λq(hq:q<n)=>(hG q hq).2
   refine rb (iR ae ae pZ (mE ar (c:= .X (1+k)) ae ae (tb eP) ae (rk 1 ae ae (qI ar (T:=aM) (xs:=G k) ae cz ae ae af (by rw[yB k eP];omega) (yy ar ae cz ae ae ae (by show((j:Int)).toNat<_;rw[yB k eP];omega) (rc ae ae hinv (re ae ?_ (ho:=qK gI))))))));refine aj (rr ae (aK (bA (α:=Nat) (λc=>⟨[(0,.c (.L 1000 0 n (some n))),(1,cU p),(5,cI n),(6,.c (.X 5000000)),(7,.c (.X 6000000)),(25,cI n),(26,cI j),(8,.c (.E dU (j:Int) 0)),(9,cI k),(11,cU v),(71,cI n),(72,cI c)],[(5000000,.vec 3 dU (zl bD)),(6000000,.vec 3 dU (zl free))]++eX 1000 22 n 25 aM (fB G k (lU p v (G k) c)),15,[]⟩) (λc=>c≤n) (λc=>n-c) 0 (bK _) ?_ ?_)))
   ·refine iy ⟨sR ae,sR ae,sR ae,sR ae,sR ae,sR ae,sR ae,sR ae,sR ae,sR ae,sR ae,sR ae,ah⟩ ⟨bR ae,bR ae,ah⟩ ae (λq hq=>?_) af;rw[akL,aai];exact cz
   intro c hc;have hsr:=SF (show 0<p by omega) v (hGr k eP) c;have Mi:=uk p v (G k) c;have Ih:fB G k (lU p v (G k) c) k=lU p v (G k) c:=Av _ _ _;refine rr ae (aj (ax ae (λh2=>?_) (λh2=>?_)))
   ·have sW:c<n:=by have h2:(c:Int)<(n:Int):=bc h2;omega
    refine aC (ai (aj (aK (rr ae ?_))));refine cG (iR ae ae pZ (mE ar (c:= .X (1+k)) ae ae (tb eP) ae (iR ae ae pZ (mE ar (c:= .X (1+k)) ae ae (tb eP) ae (rk 1 ae ae (qI ar (T:=aM) (xs:=fB G k (lU p v (G k) c) k) ae cz ae ae af (by rw[Ih,Mi,yB k eP];omega) (yy ar ae cz ae ae ae (by show((c:Int)).toNat<_;rw[Ih,Mi,yB k eP];omega) (rk 4 ae ae ?_ (hp:=aR)))))))));refine qI ar (T:=aM) (xs:=fB G k (lU p v (G k) c) k) ae cz ae ae af (by rw[Ih,Mi,yB k eP];omega) ?_;refine Bz ar (T:=aM) (id:=1+k) (xs:=fB G k (lU p v (G k) c) k) ae cz ae ae ae ((G k).getD c 0*v%(p:Int)) ?_ (by show((c:Int)).toNat<_;rw[Ih,Mi,yB k eP];omega) ?_
    ·have hx:(fB G k (lU p v (G k) c) k).getD ((c:Int)).toNat 0=(G k).getD c 0:=by rw[bw,Ih,EN p v (G k) c (by rw[yB k eP];exact sW),aq af]
     show some [C.I .u64 ((IntKind.wrap .u64 ((fB G k (lU p v (G k) c) k).getD ((c:Int)).toNat 0*v)).tmod (p:Int))]=_;rw[hx,Ru _ _ _ (hGr k eP c) hv af];rfl
    refine re ae ?_ (ho:=qK gI);refine a7 (ai (rt ae (hp:=aR) (a8 (c+1) sW (by show n-(c+1)<n-c;omega) (iy ⟨sR ae,sR ae,sR ae,sR ae,sR ae,sR ae,sR ae,sR ae,sR ae,sR ae,sR ae,sR ae,ah⟩ ⟨⟨_,(bH af).trans ae,dd.refl _⟩,⟨_,(bH af).trans ae,dd.refl _⟩,ah⟩ ((bH af).trans ae) (λq hq=>?_) af))));by_cases e:q=k
    ·subst e;refine Cd.trans (az (λz=>some (aJ.vec 25 aM z)) ?_);rw[bw,Av,Av,akM p v (G q) c (by rw[yB q eP];exact sW)]
    ·refine(bH af).trans (Eq.trans (cz) (az (λz=>some (aJ.vec 25 aM z)) ?_));rw[Cl _ _ e,Cl _ _ e]
   ·have sW:n=c:=by have h2:¬(c:Int)<(n:Int):=bC h2;omega
    subst sW;refine bp (bu (br (bq (ai ?_))));have hU:nF p n (fB G k (lU p v (G k) n)):=hG.up ⟨by rw[uk,yB k eP],hsr⟩;generalize fB G k (lU p v (G k) n)=U at*;have Mj:=λq(hq:q<n)=>(hU q hq).1
    have SN:=λq(hq:q<n)=>(hU q hq).2
    refine aj (rr ae (aK (bA (α:=Nat) (λr=>⟨[(0,.c (.L 1000 0 n (some n))),(1,cU p),(5,cI n),(6,.c (.X 5000000)),(7,.c (.X 6000000)),(25,cI n),(26,cI j),(8,.c (.E dU (j:Int) 0)),(9,cI k),(93,cI n),(94,cI r)],[(5000000,.vec 3 dU (zl bD)),(6000000,.vec 3 dU (zl free))]++eX 1000 22 n 25 aM (gY p U k j r),17,[]⟩) (λr=>r≤n) (λr=>n-r) 0 (bK _) ?_ ?_)))
    ·refine iy ⟨sR ae,sR ae,sR ae,sR ae,sR ae,sR ae,sR ae,sR ae,sR ae,sR ae,sR ae,ah⟩ ⟨bR ae,bR ae,ah⟩ ae (λq hq=>?_) af;rw[ak5];exact cz
    intro r hr;refine rr ae (aj (ax ae (λh3=>?_) (λh3=>?_)))
    ·have n8:r<n:=by have h3:(r:Int)<(n:Int):=bc h3;omega
     have SO:(0:Int)≤(r:Int)∧(r:Int)<(n:Int):=⟨by omega,by omega⟩;have Mk:=ak3 p U k j r;have hAk:=ak4 p U k j r;have zT:=SN r n8 j;refine aC (ai (aj (aK (rr ae ?_))));refine rb (iR ae ae SO (mE ar (c:= .X (1+r)) ae ae (tb n8) ae (rk 1 ae ae (qI ar (T:=aM) (xs:=gY p U k j r r) ae cz ae ae af (by rw[Mk,Mj r n8];omega) (yy ar ae cz ae ae ae (by show((j:Int)).toNat<_;rw[Mk,Mj r n8];omega) (re ae ?_ (ho:=qK gI)))))));rw[show(gY p U k j r r).getD ((j:Int)).toNat 0=(U r).getD j 0 by rw[bw,Mk]];generalize BK:(U r).getD j 0=s at*;have back:∀(st:St),Wk st ⟨[(0,.c (.L 1000 0 n (some n))),(1,cU p),(5,cI n),(6,.c (.X 5000000)),(7,.c (.X 6000000)),(25,cI n),(26,cI j),(8,.c (.E dU (j:Int) 0)),(9,cI k),(93,cI n),(94,cI ((r+1:Nat):Int))],[(5000000,.vec 3 dU (zl bD)),(6000000,.vec 3 dU (zl free))]++eX 1000 22 n 25 aM (gY p U k j (r+1)),17,[]⟩→Wk st ⟨[(0,.c (.L 1000 0 n (some n))),(1,cU p),(5,cI n),(6,.c (.X 5000000)),(7,.c (.X 6000000)),(25,cI n),(26,cI j),(8,.c (.E dU (j:Int) 0)),(9,cI k),(93,cI n),(94,cI ((r+1:Nat):Int))],[(5000000,.vec 3 dU (zl bD)),(6000000,.vec 3 dU (zl free))]++eX 1000 22 n 25 aM (gY p U k j (r+1)),17,[]⟩:=λ_ h=>h
     refine rb (rg 107 ae ae (λh4=>?_) (λh4=>?_))
     ·have h4:r≠k:=λe=>by subst e;simp at h4
      refine re ae (ax ae (λh5=>?_) (λh5=>?_))
      ·have h5:s≠0:=λe=>by subst e;simp at h5
       have e1:IntKind.wrap .u64 ((p:Int)-s)=(p:Int)-s:=wrap_u64 _ af af;refine rr ae (aK (bA (α:=Nat) (λc=>⟨[(0,.c (.L 1000 0 n (some n))),(1,cU p),(5,cI n),(6,.c (.X 5000000)),(7,.c (.X 6000000)),(25,cI n),(26,cI j),(8,.c (.E dU (j:Int) 0)),(9,cI k),(93,cI n),(94,cI r),(14,cI r),(15,cU s),(111,cI n),(112,cI c)],[(5000000,.vec 3 dU (zl bD)),(6000000,.vec 3 dU (zl free))]++eX 1000 22 n 25 aM (fB (gY p U k j r) r (lV p s (U r) (U k) c)),22,[]⟩) (λc=>c≤n) (λc=>n-c) 0 (bK _) ?_ ?_))
       ·refine iy ⟨sR ae,sR ae,sR ae,sR ae,sR ae,sR ae,sR ae,sR ae,sR ae,sR ae,sR ae,sR ae,sR ae,sR ae,sR ae,ah⟩ ⟨bR ae,bR ae,ah⟩ ae (λq hq=>?_) af;rw[akN,show fB (gY p U k j r) r (U r)=gY p U k j r from by rw[←Mk];exact aai _ _];exact cz
       intro c hc;have Ii:fB (gY p U k j r) r (lV p s (U r) (U k) c) r=lV p s (U r) (U k) c:=Av _ _ _;have SP:fB (gY p U k j r) r (lV p s (U r) (U k) c) k=U k:=by rw[Cl _ _ (λe=>h4 e.symm),hAk]
       have Ml:=xd p s (U r) (U k) c;have kA:=Mj r n8;have L7:=Mj k eP;refine rr ae (aj (ax ae (λh6=>?_) (λh6=>?_)))
       ·have sW:c<n:=by have h6:(c:Int)<(n:Int):=bc h6;omega
        refine aC (ai (aj (aK (rr ae ?_))));refine cG (iR ae ae SO (mE ar (c:= .X (1+r)) ae ae (tb n8) ae (iR ae ae SO (mE ar (c:= .X (1+r)) ae ae (tb n8) ae (rk 1 ae ae (qI ar (T:=aM) (xs:=fB (gY p U k j r) r (lV p s (U r) (U k) c) r) ae cz ae ae af (by rw[Ii,Ml];omega) (yy ar ae cz ae ae ae (by show((c:Int)).toNat<_;rw[Ii,Ml];omega) ?_)))))));refine iR ae ae pZ (mE ar (c:= .X (1+k)) ae ae (tb eP) ae (rk 1 ae ae (qI ar (T:=aM) (xs:=fB (gY p U k j r) r (lV p s (U r) (U k) c) k) ae cz ae ae af (by rw[SP];omega) (yy ar ae cz ae ae ae (by show((c:Int)).toNat<_;rw[SP];omega) (rk 4 ae ae ?_ (hp:=aR))))));refine qI ar (T:=aM) (xs:=fB (gY p U k j r) r (lV p s (U r) (U k) c) r) ae cz ae ae af (by rw[Ii,Ml];omega) ?_;refine Bz ar (T:=aM) (id:=1+r) (xs:=fB (gY p U k j r) r (lV p s (U r) (U k) c) r) ae cz ae ae ae (((U r).getD c 0+((p:Int)-s)*(U k).getD c 0)%(p:Int)) ?_ (by show((c:Int)).toNat<_;rw[Ii,Ml];omega) ?_
        ·have hx:(fB (gY p U k j r) r (lV p s (U r) (U k) c) r).getD ((c:Int)).toNat 0=(U r).getD c 0:=by rw[bw,Ii,EO p s (U r) (U k) c af,aq af]
         have hy:(fB (gY p U k j r) r (lV p s (U r) (U k) c) k).getD ((c:Int)).toNat 0=(U k).getD c 0:=by rw[bw,SP]
         show some [C.I .u64 ((IntKind.wrap .u64 ((fB (gY p U k j r) r (lV p s (U r) (U k) c) r).getD ((c:Int)).toNat 0+IntKind.wrap .u64 (IntKind.wrap .u64 ((p:Int)-s)*(fB (gY p U k j r) r (lV p s (U r) (U k) c) k).getD ((c:Int)).toNat 0))).tmod (p:Int))]=_;rw[hx,hy,e1,YP _ _ _ _ (SN r n8 c) af (SN k eP c) af];rfl
        refine re ae ?_ (ho:=qK gI);refine a7 (ai (rt ae (hp:=aR) (a8 (c+1) sW (by show n-(c+1)<n-c;omega) (iy ⟨sR ae,sR ae,sR ae,sR ae,sR ae,sR ae,sR ae,sR ae,sR ae,sR ae,sR ae,sR ae,sR ae,sR ae,sR ae,ah⟩ ⟨⟨_,(bH af).trans ae,dd.refl _⟩,⟨_,(bH af).trans ae,dd.refl _⟩,ah⟩ ((bH af).trans ae) (λq hq=>?_) af))));by_cases e:q=r
        ·subst e;refine Cd.trans (az (λz=>some (aJ.vec 25 aM z)) ?_);rw[bw,Av,Av,akO p s (U q) (U k) c af]
        ·refine(bH af).trans (Eq.trans (cz) (az (λz=>some (aJ.vec 25 aM z)) ?_));rw[Cl _ _ e,Cl _ _ e]
       ·have sW:c=n:=by have h6:¬(c:Int)<(n:Int):=bC h6;omega
        subst sW;refine bp (bu (br (bq (a7 (ai (rt ae (hp:=aR) (a8 (r+1) n8 (by show c-(r+1)<c-r;omega) ?_)))))));have es:=ak6 p U (t:=r) (k:=k) (j:=j) ⟨h4,by rw[BK];exact h5⟩;rw[BK,kA]at es;refine back _ (iy ⟨sR ae,sR ae,sR ae,sR ae,sR ae,sR ae,sR ae,sR ae,sR ae,sR ae,sR ae,ah⟩ ⟨bR ae,bR ae,ah⟩ ae (λq hq=>?_) af);rw[←es];exact cz
      ·have h5:s=0:=by simpa using h5
       refine aC (a7 (ai (rt ae (hp:=aR) (a8 (r+1) n8 (by show n-(r+1)<n-r;omega) ?_))));refine back _ (iy ⟨sR ae,sR ae,sR ae,sR ae,sR ae,sR ae,sR ae,sR ae,sR ae,sR ae,sR ae,ah⟩ ⟨bR ae,bR ae,ah⟩ ae (λq hq=>?_) af);rw[aah p U (λh=>h.2 (by rw[BK];exact h5))];exact cz
     ·have h4:r=k:=by have:((r:Int)=(k:Int)):=uH;omega
      refine re ae (ax ae (λh5=>by cases h5) (λh5=>?_));refine aC (a7 (ai (rt ae (hp:=aR) (a8 (r+1) n8 (by show n-(r+1)<n-r;omega) ?_))));refine back _ (iy ⟨sR ae,sR ae,sR ae,sR ae,sR ae,sR ae,sR ae,sR ae,sR ae,sR ae,sR ae,ah⟩ ⟨bR ae,bR ae,ah⟩ ae (λq hq=>?_) af);rw[aah p U (λh=>h.1 h4)];exact cz
    ·have n8:n=r:=by have h3:¬(r:Int)<(n:Int):=bC h3;omega
     subst n8;refine bp (bu (br (bq (ai ?_))));refine cG (rl dU [(j:Int)] ae ae (ra ae ae ae ae ae ae ae ae ae ?_ ?_ (re ae (a7 (ai (rt ae (a8 (j+1) Aw (by show n-(j+1)<n-j;omega) ?_)))))))
     ·show(_+1+(_+1)/4+192)*8≤_;omega
     ·show(_+1)*1≤_;omega
     show Wk _ ⟨[(0,.c (.L 1000 0 n (some n))),(1,cU p),(5,cI n),(6,.c (.X 5000000)),(7,.c (.X 6000000)),(25,cI n),(26,cI ((j+1:Nat):Int))],[(5000000,.vec 3 dU (zl (gk p n F (j+1)).2.1)),(6000000,.vec 3 dU (zl (gk p n F (j+1)).2.2))]++eX 1000 22 n 25 aM (gk p n F (j+1)).1,7,[]⟩;rw[Mh];exact SL 5000000 18003000 ⟨sR ae,sR ae,sR ae,sR ae,sR ae,sR ae,sR ae,ah⟩ ⟨⟨_,ae,dd.of_eq (az (aJ.vec 3 dU) (aaf bD j))⟩,bR ae,ah⟩ ae (λq hq=>VH) af af af ae af af af
  ·have Ig:aG Tryz.prog 238 [cS (.sl aM) L,Mc j] (.c (.I .i64 (-1))):=Z2 L j (-1) af (λi hi=>by rw[tX i af,(i1 _ af).1];exact Aw) (.inr ⟨ae,λi hi=>by rw[tX i af];exact hz _ af af⟩);rw[hL]at Ig;refine rb (iR ae ae ?_ (L8 ae ae ae (ZL (z:= .I .i64 (-1)) ae ae ae (λq hq=>cz) af xf (bF _) Ig (λ_ _ _ h=>h) (re ae ?_))))
   ·simp only[Pr.an,Pr.h,true_and,and_true];omega
   have Mh:gk p n F (j+1)=(B,bD,free++[j]):=hS.trans (Z5 hz);refine aj (rr ae (ax ae (λh1=>?_) (λh1=>?_)))
   ·refine rb (rl dU [(j:Int)] ae ae (ra ae ae ae ae ae ae ae ae ae ?_ ?_ (re ae (bp (bu (bq (ai (rt ae (a8 (j+1) Aw (by show n-(j+1)<n-j;omega) ?_)))))))))
    ·show(_+1+(_+1)/4+192)*8≤_;omega
    ·show(_+1)*1≤_;omega
    show Wk _ ⟨[(0,.c (.L 1000 0 n (some n))),(1,cU p),(5,cI n),(6,.c (.X 5000000)),(7,.c (.X 6000000)),(25,cI n),(26,cI ((j+1:Nat):Int))],[(5000000,.vec 3 dU (zl (gk p n F (j+1)).2.1)),(6000000,.vec 3 dU (zl (gk p n F (j+1)).2.2))]++eX 1000 22 n 25 aM (gk p n F (j+1)).1,7,[]⟩;rw[Mh];exact SL 6000000 12003000 ⟨sR ae,sR ae,sR ae,sR ae,sR ae,sR ae,sR ae,ah⟩ ⟨bR ae,⟨_,ae,dd.of_eq (az (aJ.vec 3 dU) (aaf free j))⟩,ah⟩ ae (λq hq=>VH) af af af ae af af af
   ·exfalso;have h1:¬((bD.length:Int)+ -1<(bD.length:Int)):=bC h1;omega
 ·have Aw:j=n:=by have h:¬(j:Int)<(n:Int):=bC h;omega
  subst Aw;have Ij:jU p j F=(gk p j F j).2.2.map λf=>mI p j (gk p j F j).1 (gk p j F j).2.1 f (gk p j F j).2.1.length:=rfl
  generalize EV:gk p j F j=S at*;obtain⟨B,bD,free⟩:=S;simp only at i1 i2 i3 i4 Ij⊢;have SM:=Mg bD;have hzf:=Mg free;have L7:(jU p j F).length=free.length:=by rw[Ij,dJ]
  have hkg:∀q,q<free.length→(jU p j F)[q]? =some (mI p j B bD (free.getD q 0) bD.length):=λq hq=>by rw[Ij,j3,aY,ct hq];rfl
  generalize jU p j F=KL at*;refine bp (bu (br (bq (ai (rr ae ?_)))));refine H9 5000000 ae ae ae af (H9 6000000 ae ae ae af ?_);refine aj (rr ae (aK (bA (α:=Nat) (λq=>⟨[(0,.c (.L 1000 0 j (some j))),(1,cU p),(5,cI j),(6,cS dU (zl bD)),(17,.c (.X 10000000)),(149,cS dU (zl free)),(150,cI free.length),(151,cI q)],[(10000000,.vec 22 (.sl aM) (KL.take q))]++eX 1000 22 j 25 aM B,11,[]⟩) (λq=>q≤free.length) (λq=>free.length-q) 0 (bK _) ?_ ?_)))
  ·exact s9 10000000 22 (.sl aM) (m2:=eX 1000 22 j 25 aM B) ⟨.inl (sR ae),.inl (sR ae),.inl (sR ae),.inl (sR ae),.inr ⟨ae,ae⟩,.inl (sR ae),.inl ⟨_,ae,au.of_eq (az (λz:Nat=>cI (z:Int)) hzf)⟩,.inl (sR ae),ah⟩ ⟨bR ae,iM.gj λq hq=>cz⟩ ae (EU (conc:=[(10000000,.vec 22 (.sl aM) [])]) ae af af)
  intro q hq;have rI:(KL.take q).length=q:=y7;refine rr ae (aj (ax ae (λh1=>?_) (λh1=>?_)))
  ·have Ik:q<free.length:=by have h1:(q:Int)<(free.length:Int):=bc h1;omega
   have uT:=i2.fb q Ik;have Il:(zl free).getD ((q:Int)).toNat 0=((free.getD q 0:Nat):Int):=by rw[bw,aag]
   have asE:(zl free).getD ((q:Int)).toNat dU.kU=((free.getD q 0:Nat):Int):=Il;have hkq:=hkg q Ik;generalize free.getD q 0=f at*;refine aC (ai (aj (aK (rr ae (hp:=aR) (rb ?_)))));refine rm aM j ae ae ae ae ae ae (lN .u64) ae ?_ ?_ (re ae ?_)
   ·show _*8≤_;omega
   ·show _*1≤_;omega
   have kA:(List.replicate j (0:Int)).length=j:=jv;have aam:(List.replicate j aM.kU).length=j:=jv;refine rr ae (hp:=jN) (aj (rr ae (aK (bA (α:=Nat) (λt=>⟨[(0,.c (.L 1000 0 j (some j))),(1,cU p),(5,cI j),(6,cS dU (zl bD)),(17,.c (.X 10000000)),(149,cS dU (zl free)),(150,cI free.length),(151,cI q),(19,cI f),(20,.c (.X 13001000)),(160,cS dU (zl bD)),(161,cI bD.length),(162,cI t)],[(10000000,.vec 22 (.sl aM) (KL.take q)),(13001000,.vec 25 aM (mI p j B bD f t))]++eX 1000 22 j 25 aM B,16,[]⟩) (λt=>t≤bD.length) (λt=>bD.length-t) 0 (bK _) ?_ ?_))))
   ·refine iy ⟨sR ae,sR ae,sR ae,sR ae,sR ae,sR ae,sR ae,sR ae,sE ae ?_,sR ae,sR ae,sE ae ?_,sR ae,ah⟩ ⟨bR ae,bE ae ?_,ah⟩ ae (λq hq=>cz) af
    ·exact az cI Il
    ·exact az (λz:Nat=>cI (z:Int)) SM
    ·refine az (aJ.vec 25 aM) ?_;rw[Il,bw];rfl
   intro t ht;have eJ:=If p j B bD f t;have p9:=i2.pl;refine rr ae (aj (ax ae (λh2=>?_) (λh2=>?_)))
   ·have Mm:t<bD.length:=by have h2:(t:Int)<(bD.length:Int):=bc h2;omega
    have hpb:=i2.pb t Mm;have yr:(zl bD).getD ((t:Int)).toNat 0=((bD.getD t 0:Nat):Int):=by rw[bw,aag]
    have asF:(zl bD).getD ((t:Int)).toNat dU.kU=((bD.getD t 0:Nat):Int):=yr;have SQ:t<j:=af;have hBt:=(i1 t SQ).2 f;have hBl:=(i1 t SQ).1;have HG:(0:Int)≤(t:Int)∧(t:Int)<(j:Int):=⟨by omega,by omega⟩;have alc:mI p j B bD f (t+1)=(mI p j B bD f t).set (bD.getD t 0) (((p:Int)-(B t).getD f 0)%(p:Int)):=rfl;refine aC (ai (aj (aK (rr ae (hp:=aR) ?_))));refine cG (iR ae ae HG (mE ar (c:= .X (1+t)) ae ae (tb SQ) ae (rk 1 ae ae (qI ar (T:=aM) (xs:=B t) ae cz ae ae af af (yy ar ae cz ae ae ae (by show((f:Int)).toNat<_;omega) (re ae ?_ (hp:=?_)))))))
    ·refine a7 (ai (rt ae (hp:=aR) (a8 (t+1) Mm (by show bD.length-(t+1)<bD.length-t;omega) (iy ⟨sR ae,sR ae,sR ae,sR ae,sR ae,sR ae,sR ae,sR ae,sR ae,sR ae,sR ae,sR ae,sR ae,ah⟩ ⟨bR ae,bE ae ?_,ah⟩ ae (λq hq=>cz) af))));refine az (aJ.vec 25 aM) ?_;have e1:IntKind.wrap .u64 ((p:Int)-(B t).getD f 0)=(p:Int)-(B t).getD f 0:=wrap_u64 _ af af;rw[alc,yr,bw,bw,e1,qZ af]
    ·simp only[Pr.an,Pr.h,num,aA,true_and,and_true];omega
   ·have Mm:t=bD.length:=by have h2:¬(t:Int)<(bD.length:Int):=bC h2;omega
    subst Mm;refine bp (bu (br (bq (ai (H9 13001000 ae ae ae af ?_)))));refine cG (rl (.sl aM) [mI p j B bD f bD.length] ae ae (ra ae ae ae ae ae ae ae ae ae ?_ ?_ (re ae (a7 (ai (rt ae (hp:=aR) (a8 (q+1) Ik (by show free.length-(q+1)<free.length-q;omega) ?_)))))))
    ·show(_+1+(_+1)/4+192)*24≤_;omega
    ·show(_+1)*1≤_;omega
    refine SL 10000000 17003000 ⟨sR ae,sR ae,sR ae,sR ae,sR ae,sR ae,sR ae,sR ae,ah⟩ ⟨bE ae ?_,ah⟩ ae (λq hq=>VH) af af af ae af af af;refine az (aJ.vec 22 (.sl aM)) ?_;rw[wc,hkq];rfl
  ·have Ik:q=free.length:=by have h1:¬(q:Int)<(free.length:Int):=bC h1;omega
   subst Ik;rw[lD af];exact bp (bu (br (bq (ai (H9 10000000 ae ae ae af (rr ae (aF (Sj ar ae (au.refl _)))))))))
end Go.El
namespace Go.El
open Go Go.Proofs
namespace Fx
variable{p:Nat}
def sF(f:Nat→Fx p):Nat→Fx p
 |0=>0
 |k+1=>sF f k+f k
def aan{f g:Nat→Fx p}:∀{k:Nat},(∀i,i<k→f i=g i)→sF f k=sF g k
 |0,_=>rfl
 |k+1,h=>by rw[sF,sF,aan (λi hi=>h i af),h k af]
def SR{Q:Fx p}{f g:Nat→Fx p}:∀{k:Nat},(∀i,i<k→Q∣f i-g i)→Q∣sF f k-sF g k
 |0,_=>wW Q _
 |k+1,h=>RW (SR λi hi=>h i af) (h k af)
def aao(H:bI p)(f:Nat→Fx p):∀k,pk (sF f k) p=sF (λi=>pk (f i) p) k
 |0=>RX xw
 |k+1=>by rw[sF,HB H,aao H f k];rfl
def aap(f:Nat→Int):∀k,sF (λi=>(K (f i):Fx p)) k=K (sm f k)
 |0=>mA.symm
 |k+1=>by rw[sF,aap f k,sm,qE]
def aaq(w:List Int):∀k,(fx (w.take k):Fx p)=sF (λc=>K (w.getD c 0)*pk X c) k
 |0=>by rw[OZ,n5];rfl
 |k+1=>by rw[sF,←aaq w k,R7];exact mk_congr (Eu w k) _ ((aW.ps p _).add ((aW.K p _).mul (yv k)))
def ald{w:List Int}{n:Nat}(h:w.length≤n):(fx w:Fx p)=sF (λc=>K (w.getD c 0)*pk X c) n:=by rw[←aaq,lD h]
def EW(x:Nat→Int)(L:Nat→List Int)(k:Nat):PS:=λr=>sm (λc=>x c*(L c).getD r 0) k
def aar(x:Nat→Int)(L:Nat→List Int)(k:Nat):EW x L k+PS.K (x k)*ps (L k)=EW x L (k+1):=PS.ext λi=>by rw[PS.fJ,PS.gA];rfl
def aas(x:Nat→Int)(L:Nat→List Int)(k:Nat):aW p (EW x L k):=by
 induction k with
 |zero=>exact⟨0,λi _=>df _⟩
 |succ k ih=>exact aW.cg (ih.add ((aW.K p (x k)).mul (aW.ps p (L k)))) (Cg.of_eq (aar x L k))
def Mn(x:Nat→Int)(L:Nat→List Int):∀k,sF (λc=>(K (x c)*fx (L c):Fx p)) k=mk (EW x L k) (aas x L k)
 |0=>mk_congr (PS.ext λi=>rfl) (aW.zero p) _
 |k+1=>by rw[sF,Mn x L k];exact mk_congr (aar x L k) ((aas x L k).add ((aW.K p (x k)).mul (aW.ps p (L k)))) _
def aat{w:List Int}{n:Nat}{x:Nat→Int}{L:Nat→List Int}{k:Nat}(hw:w.length≤n)(hL:∀c,c<k→(L c).length≤n)(h:∀r,r<n→w.getD r 0%(p:Int)=sm (λc=>x c*(L c).getD r 0) k%p):(fx w:Fx p)=sF (λc=>(K (x c)*fx (L c):Fx p)) k:=by
 rw[Mn];refine mk_eq.2 (Cg.of λr=>?_);by_cases hr:r<n
 ·exact h r hr
 ·rw[dS,dz w af,EW,nZ (λc hc=>by rw[dz (L c) (by have:=hL c hc;omega),eo])]
def ale{w:List Int}{x:Nat→Int}{L:Nat→List Int}{k:Nat}(h:(fx w:Fx p)=sF (λc=>(K (x c)*fx (L c):Fx p)) k)(r:Nat):w.getD r 0%(p:Int)=sm (λc=>x c*(L c).getD r 0) k%p:=by rw[Mn]at h;exact(mk_eq.1 h).at r
end Fx
open Fx
structure Ax(p n:Nat)(f:List Int)(im:Nat→List Int)(G:Nat→Nat→Int):Prop where
 len:∀c,c<n→(im c).length≤n
 aau:∀c,c<n→(fx f:Fx p)∣fx (im c)-pk X (p*c)
 ent:∀r c,r<n→c<n→G r c%(p:Int)=((im c).getD r 0-if r=c then 1 else 0)%p
def Ax.dot{p n:Nat}{f:List Int}{im:Nat→List Int}{G:Nat→Nat→Int}(h:Ax p n f im G)(w:Nat→Int){r:Nat}(hr:r<n):gX n (G r) w%(p:Int)=(sm (λc=>w c*(im c).getD r 0) n-w r)%p:=by
 have e1:gX n (G r) w%(p:Int)=sm (λc=>w c*(im c).getD r 0+(-1)*(if c=r then w c else 0)) n%p:=Ie λc hc=>by
  rw[ZQ (h.ent r c hr hc) ae];congr 1;by_cases e:r=c
  ·subst e;rw[aw ae,aw ae,xK,fc ((im r).getD r 0)];omega
  ·rw[aq e,aq (λh=>e h.symm),Di,fc];omega
 rw[e1,BV,ua,EM (a:=r) hr (λi _ aN=>aq aN),aw ae];congr 1;omega
def Ax.iff{p n:Nat}(H:bI p){f:List Int}{im:Nat→List Int}{G:Nat→Nat→Int}(h:Ax p n f im G)(hf:bV p f)(nW:f.length=n+1){w:List Int}(hw:w.length≤n):rR p n G (λc=>w.getD c 0)↔(fx f:Fx p)∣pk (fx w) p-fx w:=by
 have hA:(fx f:Fx p)∣sF (λc=>(K (w.getD c 0)*fx (im c):Fx p)) n-pk (fx w) p:=by
  have e:pk (fx w:Fx p) p=sF (λc=>K (w.getD c 0)*pk X (p*c)) n:=by rw[ald hw,aao H];exact aan λc _=>by rw[wY,BX H,←B4,g9]
  rw[e];exact SR λc hc=>Ex (wW _ _) (h.aau c hc)
 constructor
 ·intro hs;have e:(fx w:Fx p)=sF (λc=>(K (w.getD c 0)*fx (im c):Fx p)) n:=aat hw h.len λr hr=>by have h1:=hs r hr;rw[h.dot _ hr]at h1;have:=AR.2 h1;exact this.symm
  rw[←e]at hA;exact nE hA
 ·intro hd r hr;have h1:=rN hA hd;have h2:=vq H h1 (by
   have h3:=HO H.pos (sF (λc=>(K (w.getD c 0)*fx (im c):Fx p)) n) (fx w);have h4:=aj0 H.pos w (p:=(p:Int));have h5:sz (sF (λc=>(K (w.getD c 0)*fx (im c):Fx p)) n)≤n:=by rw[Mn];refine yw H.pos _ (λi hi=>?_);rw[EW,nZ (λc hc=>by rw[dz (im c) (by have:=h.len c hc;omega),eo]),df]
   rw[de hf];omega)
  have h3:=ale (Ev h2).symm r;rw[h.dot _ hr];exact AR.1 h3.symm
def Ax.gZ{p n:Nat}(H:bI p){f:List Int}{im:Nat→List Int}{F:Nat→List Int}(h:Ax p n f im (mG F))(hF:nF p n F)(hf:Mon p f)(nW:f.length=n+1)(hs:k9 (fx f:Fx p)){g:List Int}(hg:Mon p g)(zQ:2≤g.length)(hd:(fx g:Fx p)∣fx f)(hc:∀q,q<(jU p n F).length→∃c,(fx g:Fx p)∣fx ((jU p n F).getD q [])-K c):cp (fx g:Fx p):=by
 refine aj2 H (hf.m8 H) hs hd (by rw[de hg.c];exact zQ) λw hw=>?_
 obtain⟨m1,m2,m3⟩:=Cf H hf.c hf.ne w;have EL:(fx f:Fx p)∣pk (fx (mH H (f) w)) p-fx (mH H f w):=rN (B5 m3 p) (rN hw (nE m3));have alf:=(h.iff H hf.c nW af).2 EL;obtain⟨k1,k2,k3⟩:=Z9 H hF;obtain⟨x,hx⟩:=k3 _ alf;have e:(fx (mH H f w):Fx p)=sF (λq=>(K (x q)*fx ((jU p n F).getD q []):Fx p)) (jU p n F).length:=aat (n:=n) af (λq hq=>by
  have hm:(jU p n F).getD q []∈jU p n F:=by rw[aY,ct hq];exact mO hq
  exact O6 (k2 _ hm).1) hx
 have wB:∃cc:Nat→Int,∀q,q<(jU p n F).length→(fx g:Fx p)∣fx ((jU p n F).getD q [])-K (cc q):=by refine⟨λq=>if hq:q<(jU p n F).length then Classical.choose (hc q hq)else 0,λq hq=>?_⟩;simp only[dif_pos hq];exact xy (hc q hq)
 obtain⟨cc,wB⟩:=wB;refine⟨sm (λq=>x q*cc q) (jU p n F).length,?_⟩;have h1:(fx g:Fx p)∣fx (mH H f w)-K (sm (λq=>x q*cc q) (jU p n F).length):=by rw[e,←aap];exact SR λq hq=>by rw[gA];exact Ex (wW _ _) (wB q hq)
 exact rN (nE (dvd_trans hd m3)) h1
end Go.El
namespace Go.El
open Go Go.Proofs Fx
noncomputable def nG{p:Nat}(H:bI p)(f:List Int):Nat→List Int
 |0=>[1]
 |c+1=>rQ p f (nG H f c) (mH H f (pk X p))
def SS{p:Nat}(H:bI p){f:List Int}(hf:Mon p f)(h3:3≤f.length):∀c,bV p (nG H f c)∧(nG H f c).length<f.length∧(fx f:Fx p)∣fx (nG H f c)-pk X (p*c)
 |0=>by refine⟨⟨wT ak xw,.inr (by show(1:Int)≠0;decide)⟩,by show 1<_;omega,?_⟩;rw[J6,nG,LS];exact wW _ _
 |c+1=>by obtain⟨i1,i2,i3⟩:=SS H hf h3 c;obtain⟨m1,m2,m3⟩:=Cf H hf.c hf.ne (pk (X:Fx p) p);obtain⟨q1,q2,q3⟩:=Sr H (a:=nG H f c) (b:=mH H f (pk X p)) hf.c hf.ne;refine⟨q1,q2,rN q3 ?_⟩;rw[Gd,wX];exact Ex i3 m3
def kF(p n:Nat)(im:Nat→List Int)(i:Nat):Nat→List Int:=λr=>(List.range n).map λc=>if c<i then(if r=c then((im c).getD r 0+(p:Int)-1)%(p:Int)else(im c).getD r 0)else 0
def mJ(p n:Nat)(im:Nat→List Int)(i j:Nat):Nat→List Int:=λr=>if r<j then(kF p n im i r).set i ((im i).getD r 0)else kF p n im i r
def yC(p n:Nat)(im:Nat→List Int)(i r:Nat):(kF p n im i r).length=n:=by simp[kF]
def Ay(p n:Nat)(im:Nat→List Int)(i r:Nat){c:Nat}(h:c<n):(kF p n im i r).getD c 0=if c<i then(if r=c then((im c).getD r 0+(p:Int)-1)%(p:Int)else(im c).getD r 0)else 0:=Md _ h
def SU(p n:Nat)(im:Nat→List Int)(i j r:Nat):(mJ p n im i j r).length=n:=by
 unfold mJ;split
 ·rw[gK,yC]
 ·exact yC _ _ _ _ _
def alg(p n:Nat)(im:Nat→List Int)(i:Nat):mJ p n im i 0=kF p n im i:=funext λr=>by unfold mJ;rw[aq af]
def alh(p n:Nat)(im:Nat→List Int)(i j:Nat):mJ p n im i j j=kF p n im i j:=by unfold mJ;rw[aq af]
def ali(p n:Nat)(im:Nat→List Int)(i j:Nat):fB (mJ p n im i j) j ((kF p n im i j).set i ((im i).getD j 0))=mJ p n im i (j+1):=funext λr=>by
 unfold fB mJ;by_cases e:r=j
 ·subst e;rw[aw ae,aw af]
 ·rw[aq e];by_cases h:r<j
  ·rw[aw h,aw af]
  ·rw[aq h,aq af]
def aaw(l:List Int)(i c:Nat)(x:Int)(h:i<l.length):(l.set i x).getD c 0=if i=c then x else l.getD c 0:=by
 rw[aY,F7];by_cases e:i=c
 ·subst e;rw[aw ae,aw ae,aw h];rfl
 ·rw[aq e,aq e,aY]
def SV{p n:Nat}{im:Nat→List Int}{i r c:Nat}(hi:i<n)(hc:c<n):(mJ p n im i (im i).length r).getD c 0=if c=i then(im i).getD r 0 else(kF p n im i r).getD c 0:=by
 unfold mJ;by_cases h:r<(im i).length
 ·rw[aw h,aaw _ _ _ _ (by rw[yC];exact hi)];by_cases e:i=c
  ·rw[aw e,aw e.symm]
  ·rw[aq e,aq (λh=>e h.symm)]
 ·rw[aq h];by_cases e:c=i
  ·subst e;rw[aw ae,Ay p n im c r hc,aq af,dz _ af]
  ·rw[aq e]
def alj{p n:Nat}{im:Nat→List Int}{i:Nat}(hi:i<n):∀r,r<n→fB (mJ p n im i (im i).length) i ((mJ p n im i (im i).length i).set i (((im i).getD i 0+(p:Int)-1)%(p:Int))) r=kF p n im (i+1) r:=by
 intro r hr;have hl:=SU p n im i (im i).length;unfold fB;by_cases e:r=i
 ·subst e;rw[aw ae];refine Ci (by rw[gK,hl,yC]) λc hc=>?_
  rw[gK,hl]at hc;rw[aaw _ _ _ _ (by rw[hl];exact hr),SV hr hc,Ay p n im (r+1) r hc,Ay p n im r r hc];by_cases e:r=c
  ·subst e;rw[aw ae,aw af,aw ae]
  ·rw[aq e,aq (λh=>e h.symm),aq e];by_cases h2:c<r
   ·rw[aw h2,aw af]
   ·rw[aq h2,aq af]
 ·rw[aq e];refine Ci (by rw[hl,yC]) λc hc=>?_
  rw[hl]at hc;rw[SV hi hc,Ay p n im (i+1) r hc,Ay p n im i r hc];by_cases e2:c=i
  ·subst e2;rw[aw ae,aw af,aq e]
  ·rw[aq e2];by_cases h2:c<i
   ·simp only[aw h2,aw (show c<i+1 by omega)]
   ·rw[aq h2,aq af]
def aax{p n:Nat}(H:bI p){im:Nat→List Int}(h:∀c,rp p (im c))(i:Nat):nF p n (kF p n im i):=λr _=>⟨yC _ _ _ _ _,λc=>by
 have hp:=H.pos;by_cases hc:c<n
 ·rw[Ay p n im i r hc];split
  ·split
   ·exact⟨gT _ af,il _ hp⟩
   ·exact h c r
  ·exact⟨jH _,hp⟩
 ·rw[dz _ (by rw[yC];omega)];exact⟨jH _,hp⟩⟩
def alk{p n:Nat}{f:List Int}{im:Nat→List Int}(h1:∀c,(im c).length≤n)(h2:∀c,(fx f:Fx p)∣fx (im c)-pk X (p*c)):Ax p n f im (mG (kF p n im n)) where
 len:=λc _=>h1 c
 aau:=λc _=>h2 c
 ent:=λr c _ hc=>by
  show(kF p n im n r).getD c 0%(p:Int)=_;rw[Ay p n im n r hc,aw hc];by_cases e:r=c
  ·rw[aw e,aw e,kS,show(im c).getD r 0+(p:Int)-1=(im c).getD r 0-1+p by omega,Int.add_emod_right]
  ·rw[aq e,aq e,Di]
structure Im(p:Nat)(f v:List Int):Prop where
 Io:f.length≤200
 bQ:Mon p f
 two:2≤f.length
 vv:k9 (fx f:Fx p)
 c:bV p v
 ne:v≠[]
 lv:v.length≤200
 kn:(fx f:Fx p)∣pk (fx v) p-fx v
def Im.ex{p:Nat}(H:bI p){f v:List Int}(h:Im p f v):∃l,Sv p f (fx v) l∧l.length+1≤f.length∧mY Tryz.prog 184 [aP f p,aP v p] 101 PT (lP p l):=
 Sx H (f.length+1) f v (fN _) h.Io h.bQ h.two h.vv h.c h.ne h.lv h.kn
open Classical in
noncomputable def tc{p:Nat}(H:bI p)(f v:List Int):List (List Int):=if h:Im p f v then Classical.choose (h.ex H)else[]
def Mp{p:Nat}(H:bI p){f v:List Int}(h:Im p f v):Sv p f (fx v) (tc H f v)∧(tc H f v).length+1≤f.length∧mY Tryz.prog 184 [aP f p,aP v p] 101 PT (lP p (tc H f v)):=by unfold tc;rw[dif_pos h];exact xy (h.ex H)
noncomputable def mK{p:Nat}(H:bI p)(f:List Int)(KL:List (List Int)):Nat→List (List Int)
 |0=>[f]
 |q+1=>(mK H f KL q).flatMap λg=>tc H g (a6 (KL.getD q []))
def aay{p:Nat}{φ:List Int→List (List Int)}:∀{l:List (List Int)},(∀g∈l,jT p (φ g)=fx g)→jT p (l.flatMap φ)=jT p l
 |[],_=>rfl
 |g::l,h=>by rw[gJ,Su,h g be,aay λg hg=>h g (by simp[hg])];rfl
def SW{p:Nat}(H:bI p):∀{l:List (List Int)},(∀g∈l,Mon p g∧2≤g.length)→jT p l≠0∧l.length+1≤sz (jT p l)
 |[],_=>⟨n6 H,by rw[jT,oK H];exact bF _⟩
 |g::l,h=>by
  obtain⟨h1,h2⟩:=SW H (l:=l) λg hg=>h g (by simp[hg])
  obtain⟨m1,m2⟩:=h g be;have h3:=eK H (m1.m8 H) h1;rw[de m1.c]at h3;refine⟨oJ H (m1.m8 H) h1,?_⟩;rw[jT,fk];omega
def aaz{φ:List Int→List (List Int)}{b:Nat}:∀{l:List (List Int)},(∀g∈l,(φ g).length≤b)→(l.flatMap φ).length≤l.length*b
 |[],_=>by simp
 |g::l,h=>by
  have h1:=aaz (l:=l) λg hg=>h g (by simp[hg])
  have h2:=h g be;rw[gJ,ko,fk,Nat.succ_mul];omega
structure Mq(p:Nat)(f:List Int)(KL:List (List Int)):Prop where
 Io:f.length≤200
 bQ:Mon p f
 two:2≤f.length
 vv:k9 (fx f:Fx p)
 v:∀q,q<KL.length→rp p (KL.getD q [])∧(KL.getD q []).length≤200∧(∃i,(KL.getD q []).getD i 0≠0)∧(fx f:Fx p)∣pk (fx (KL.getD q [])) p-fx (KL.getD q [])
structure Ip(p:Nat)(f:List Int)(KL:List (List Int))(q:Nat)(l:List (List Int)):Prop where
 parts:∀g∈l,Mon p g∧2≤g.length∧(fx g:Fx p)∣fx f∧∀k,k<q→∃c,(fx g:Fx p)∣fx (KL.getD k [])-K c
 prod:jT p l=fx f
def Ip.pre{p:Nat}(H:bI p){f:List Int}{KL:List (List Int)}{q:Nat}{l:List (List Int)}(hk:Mq p f KL)(h:Ip p f KL q l)(hq:q<KL.length):∀g∈l,Im p g (a6 (KL.getD q [])):=by
 intro g hg;obtain⟨g1,g2,g3,_⟩:=h.parts g hg;obtain⟨v1,v2,⟨i,v3⟩,v4⟩:=hk.v q hq;have jr:g.length≤f.length:=by have:=kD H g3 (hk.bQ.m8 H);rwa[de g1.c,de hk.bQ.c]at this
 have:=hk.Io;refine⟨by omega,g1,g2,hk.vv.of_dvd g3,nC H.pos v1,λe=>v3 ?_,?_,?_⟩
 ·have h1:ps (a6 (KL.getD q [])) i=ps (KL.getD q []) i:=by rw[BZ]
  rw[e,dS,dS]at h1;exact h1.symm
 ·have:=vp (KL.getD q []);omega
 ·rw[wZ];exact dvd_trans g3 v4
def Mr{p:Nat}(H:bI p){f:List Int}{KL:List (List Int)}(hk:Mq p f KL):∀q,q≤KL.length→Ip p f KL q (mK H f KL q)
 |0,_=>⟨λg hg=>by have e:=jw.1 (show g∈[f]from hg);subst e;exact⟨hk.bQ,hk.two,dvd_refl _,λk hk=>by omega⟩,by rw[mK,jT,jT,mul_one]⟩
 |q+1,hq=>by
  have ih:=Mr H hk q af;have xg:=ih.pre H hk af;refine⟨λg hg=>?_,?_⟩
  ·obtain⟨g0,h1,h2⟩:=jE.1 (show g∈(mK H f KL q).flatMap _ from hg);obtain⟨s1,s2,s3⟩:=Mp H (xg g0 h1);obtain⟨_,_,g3,g4⟩:=ih.parts g0 h1;obtain⟨p1,p2,p3⟩:=s1.parts g h2;have hgg:(fx g:Fx p)∣fx g0:=by rw[←s1.prod];exact EK p h2
   refine⟨p1,p2,dvd_trans hgg g3,λk hk=>?_⟩;by_cases e:k=q
   ·subst e;rwa[wZ]at p3
   ·obtain⟨c,hc⟩:=g4 k af;exact⟨c,dvd_trans hgg hc⟩
  ·rw[mK,aay λg hg=>(Mp H (xg g hg)).1.prod];exact ih.prod
def Ip.len{p:Nat}(H:bI p){f:List Int}{KL:List (List Int)}{q:Nat}{l:List (List Int)}(hf:Mon p f)(h:Ip p f KL q l):l.length+1≤f.length:=by
 obtain⟨_,h2⟩:=SW H (l:=l) λg hg=>⟨(h.parts g hg).1,(h.parts g hg).2.1⟩
 rw[h.prod,de hf.c]at h2;exact h2
structure Ms(p:Nat)(f:List Int)(l:List (List Int)):Prop where
 parts:∀g∈l,Mon p g∧2≤g.length∧cp (fx g:Fx p)
 prod:jT p l=fx f
def alm{p:Nat}(H:bI p){f:List Int}(hf:Mon p f)(h2:f.length=2):cp (fx f:Fx p):=by
 refine⟨by rw[de hf.c];omega,λA B e=>?_⟩;have h0:=hf.m8 H;have hA:A≠0:=λe2=>h0 (by rw[e,e2,zero_mul])
 have hB:B≠0:=λe2=>h0 (by rw[e,e2,mul_zero])
 have h3:=eK H hA hB;rw[←e,de hf.c]at h3;have:=eN H.pos hA;have:=eN H.pos hB;omega
noncomputable def qN{p:Nat}(H:bI p)(f:List Int):List (List Int):=jU p (f.length-1) (kF p (f.length-1) (nG H f) (f.length-1))
def aaB{p:Nat}(H:bI p){f:List Int}(hf:Mon p f)(h3:3≤f.length)(rS:f.length≤200)(hs:k9 (fx f:Fx p)):Mq p f (qN H f)∧(qN H f).length≤f.length∧Ms p f (mK H f (qN H f) (qN H f).length):=by
 have hi:=SS H hf h3;have nW:f.length=(f.length-1)+1:=af;have pZ:Ax p (f.length-1) f (nG H f) (mG (kF p (f.length-1) (nG H f) (f.length-1))):=alk (λc=>by have:=(hi c).2.1;omega) (λc=>(hi c).2.2);have hR:nF p (f.length-1) (kF p (f.length-1) (nG H f) (f.length-1)):=aax H (λc=>(hi c).1.1) _;obtain⟨k1,k2,k3⟩:=Z9 H hR;have Cn:Mq p f (qN H f):=by
  refine⟨rS,hf,by omega,hs,λq hq=>?_⟩;have hm:(qN H f).getD q []∈jU p (f.length-1) (kF p (f.length-1) (nG H f) (f.length-1)):=by show(jU p (f.length-1) (kF p (f.length-1) (nG H f) (f.length-1))).getD q []∈_;have hq:q<(jU p (f.length-1) (kF p (f.length-1) (nG H f) (f.length-1))).length:=hq;rw[aY,ct hq];exact mO hq
  obtain⟨v1,v2,v3,v4⟩:=k2 _ hm;exact⟨v2,by omega,v3,(pZ.iff H hf.c nW af).1 v4⟩
 have pD:=Mr H Cn (qN H f).length (bF _);refine⟨Cn,by show(jU _ _ _).length≤_;omega,⟨λg hg=>?_,pD.prod⟩⟩;obtain⟨g1,g2,g3,g4⟩:=pD.parts g hg;exact⟨g1,g2,pZ.gZ H hR hf nW hs g1 g2 g3 g4⟩
noncomputable def nH{p:Nat}(H:bI p)(f:List Int):List (List Int):=if f.length≤2 then[f]else mK H f (qN H f) (qN H f).length
def SX{p:Nat}(H:bI p){f:List Int}(hf:Mon p f)(h2:2≤f.length)(rS:f.length≤200)(hs:k9 (fx f:Fx p)):Ms p f (nH H f):=by
 unfold nH;split
 ·refine⟨λg hg=>?_,by rw[jT,jT,mul_one]⟩;have e:=jw.1 hg;subst e;exact⟨hf,h2,alm H hf af⟩
 ·exact(aaB H hf af rS hs).2.2
end Go.El
