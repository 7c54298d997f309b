/- The engine, part 49: nil as an owned slice. Own work; no condition. -/
import Derived.Test.YtkkccchkmcjcpaaGreatU7
set_option linter.defProp false
set_option linter.unusedVariables false
set_option linter.unusedSimpArgs false
set_option linter.unnecessarySimpa false
namespace Go.El
open Go Go.RowKit
def II(l:List (Nat×AV))(id:Nat):List (Nat×AV)→Prop
 |[]=>True
 | (t,v')::r=>((∃v,ao t l=some v∧au v v')∨(ao t l=some (.c (.V (.slice none 0 0)))∧v'= .c (.X id)))∧II l id r
def II.get{l:List (Nat×AV)}{id:Nat}:∀{m:List (Nat×AV)},II l id m→∀{t v'},ao t m=some v'→(∃v,ao t l=some v∧au v v')∨(ao t l=some (.c (.V (.slice none 0 0)))∧v'= .c (.X id))
 |[],_,_,_,h=>by simp[ao]at h
 | (k,x)::m,hw,t,v',h=>by
  simp only[ao]at h;split at h
  ·rename_i e;subst e;cases h;exact hw.1
  ·exact II.get hw.2 h
def tv(id:Nat)(E:TypeId)(T:ET){sl:List (Nat×AV)}{mem:List (Nat×aK)}{nx:Nat}{gd:List (Nat×Bool)}{sl':List (Nat×AV)}{m2:List (Nat×aK)}{nx':Nat}{gd':List (Nat×Bool)}(hs:II sl id sl')(hm:iQ mem m2)(al:Nat.ble (1000000*nx) id=true)
  (uz:eQ (1000000*nx') ((id,.vec E T [])::m2)) (qW:sY (1000000*nx') sl'=true:=by rfl) (fe:(Nat.ble 1 nx'&&Nat.ble 1 id)=true:=by rfl):Wk ⟨sl,mem,nx,gd⟩ ⟨sl',(id,.vec E T [])::m2,nx',gd'⟩:=by
 generalize dh:(⟨sl,mem,nx,gd⟩:St)=st
 obtain rfl:sl=st.sl:=Ba
 obtain rfl:mem=st.mem:=Ba
 obtain rfl:nx=st.nx:=Ba
 clear dh
 intro F gV g W a h
 simp only[eX]at fe
 obtain⟨fe,IJ⟩:=fe
 have fe:=cY fe
 have IJ:=cY IJ
 have al:=cY al
 let g':Gh:=⟨g.H,λj=>if j=id then .slice none 0 0 else g.γ j⟩
 have hle:iL (kb st) g g':=⟨cF.refl _,λj hj=>by have hj:j<1000000*st.nx:=hj;have:j≠id:=af;simp[g',this]⟩
 have lW:g'.γ id= .slice none 0 0:=by simp[g']
 have yf:∀id,id<F.k0→id<1000000*nx'∧g'.γ id=F.γ0 id:=by intro j hj;obtain⟨h1,h2⟩:=h.iz j hj;refine⟨by omega,?_⟩;rw[hle.γ j h1];exact h2
 have hS:∀t v',St.kn ⟨sl',(id,.vec E T [])::m2,nx',gd'⟩ (.s t)=some (.v v')→((∃v,st.kn (.s t)=some (.v v)∧au v v')∨(st.kn (.s t)=some (.v (.c (.V (.slice none 0 0))))∧v'= .c (.X id)))∧∀id∈v'.aD,id<1000000*nx':=by
  intro t v' e;simp only[St.kn,ct]at e;obtain⟨y,hy,he⟩:=e;cases he;refine⟨?_,z9 qW t v' hy⟩;rcases hs.get hy with⟨v,hv,hle⟩|⟨hv,e⟩
  ·exact .inl ⟨v,by simp[St.kn,hv],hle⟩
  ·exact .inr ⟨by simp[St.kn,hv],e⟩
 have hM:∀j b',St.kn ⟨sl',(id,.vec E T [])::m2,nx',gd'⟩ (.m j)=some (.b b')→((j=id∧b'= .vec E T [])∨∃b,st.kn (.m j)=some (.b b)∧di b b')∧(j<1000000*nx'∧∀i∈b'.aD,i<1000000*nx'):=by
  intro t v' e;simp only[St.kn,ct]at e;obtain⟨y,hy,he⟩:=e;cases he;refine⟨?_,uz t v' hy⟩;simp only[ao]at hy;split at hy
  ·rename_i e;cases hy;exact .inl ⟨e.symm,ae⟩
  ·obtain⟨v,hv,hle⟩:=hm.get hy;exact .inr ⟨v,by simp[St.kn,hv],hle⟩
 refine⟨g',h.size,h.defers,?_,?_,?_,?_,?_,h.sub,h.below,h.le,h.fresh,yf⟩
 ·intro t v' e;rcases(hS t v' e).1 with⟨v,hv,IF⟩|⟨hv,rfl⟩
  ·exact IF.1 _ _ (bP.mono hle (h.aD _ _ hv) (h.gG t v hv))
  ·have h1:a.tmps.getD t undef= .slice none 0 0:=h.gG t _ hv;show _=g'.γ id;rw[lW];exact h1
 ·intro j b' e;rcases(hM j b' e).1 with⟨rfl,rfl⟩|⟨b,hb,eN⟩
  ·exact .inl ⟨lW,ae⟩
  ·exact eN.1 _ _ _ _ ((h.df j b hb).Ey hle (h.fF _ _ hb) (h.aD _ _ hb) (λk hk=>⟨ae,λo=>rfl⟩))
 ·intro i j b1 b2 k e e' hk dx;rcases(hM i b1 e).1 with⟨rfl,_⟩|⟨c,hc,_⟩
  ·rw[lW]at hk;cases hk
  ·rcases(hM j b2 e').1 with⟨rfl,_⟩|⟨c',pI,_⟩
   ·rw[lW]at dx;cases dx
   ·rw[hle.γ i (h.fF _ _ hc)]at hk;rw[hle.γ j (h.fF _ _ pI)]at dx;exact h.inj i j c c' k hc pI hk dx
 ·intro k y e i hi;cases k with
  |s t=>
   cases y with
   |v v'=>exact(hS t v' e).2 i hi
   |b b'=>simp only[St.kn,ct]at e;obtain⟨_,_,he⟩:=e;cases he
  |m j=>
   cases y with
   |v v'=>simp only[St.kn,ct]at e;obtain⟨_,_,he⟩:=e;cases he
   |b b'=>exact(hM j b' e).2.2 i hi
 ·intro j y e;cases y with
  |v v'=>simp only[St.kn,ct]at e;obtain⟨_,_,he⟩:=e;cases he
  |b b'=>exact(hM j b' e).2.1
end Go.El
namespace Go.El
open Go Go.Proofs Fx
noncomputable def MM{p:Nat}(H:bI p)(A:Fx p):List Int:=Classical.choose (kI H.pos A)
def S6{p:Nat}(H:bI p)(A:Fx p):bX p (MM H A):=(xQ (kI H.pos A)).1
def alm{p:Nat}(H:bI p)(A:Fx p):fx (MM H A)=A:=(xQ (kI H.pos A)).2
noncomputable def mM{p:Nat}(H:bI p)(f:List Int)(A:Fx p):List Int:=(bM (MM H A) f p).2
section
variable{p:Nat}(H:bI p){f:List Int}(hf:bX p f)(iU:f≠[])
include hf iU
def CH(A:Fx p):bX p (mM H f A)∧(mM H f A).length<f.length∧fx f∣fx (mM H f A)-A:=by obtain⟨d1,d2,d3,d4,d5,d6⟩:=lD H.hp H.le (S6 H A).1 hf iU;have hl:=cZ.2 iU;refine⟨d5 (S6 H A),by show(bM (MM H A) f p).2.length<_;omega,?_⟩;have:=SO H (S6 H A) hf iU;rwa[alm]at this
def aln{A:Fx p}{r:List Int}(hr:bX p r)(hl:r.length<f.length)(hc:fx f∣fx r-A):r=mM H f A:=by obtain⟨m1,m2,m3⟩:=CH H hf iU A;have h1:fx f∣fx r-fx (mM H f A):=rZ hc (nL m3);have h2:=vK H h1 (by have:=Iq H.pos (fx r:Fx p) (fx (mM H f A));rw[dj hr,dj m1]at this;rw[dj hf];omega);exact xo hr m1 (EZ h2)
end
def sc(p:Nat)(f a b:List Int):List Int:=(bM (eD a b p) f p).2
def S7{p:Nat}(H:bI p){f a b:List Int}(hf:bX p f)(iU:f≠[]):bX p (sc p f a b)∧(sc p f a b).length<f.length∧(fx f:Fx p)∣fx (sc p f a b)-fx a*fx b:=by obtain⟨d1,d2,d3,d4,d5,d6⟩:=lD H.hp H.le (nK H.pos a b).1 hf iU;have hl:=cZ.2 iU;refine⟨d5 (nK H.pos a b),by show(bM (eD a b p) f p).2.length<_;omega,?_⟩;have:=SO H (nK H.pos a b) hf iU;rwa[Ip]at this
abbrev MN(f:List Int)(p:Int):AV:= .c (.M (Fi 159 [(true,[.S aM f,.I .u64 p])] []))
set_option maxHeartbeats 4000000 in
def aaA{p:Nat}(H:bI p)(f a:List Int)(n:Nat)(lf:f.length≤200)(hf:bX p f)(ha:bX p a)(Fl:a.length<f.length)(D0:0<n)(hn:n<18446744073709551616):
  aG Tryz.prog 182 [aP a p,cU n,MN f p] (aP (mM H f (pk (fx a) n)) p):=by
 refine aX Tryz.func182 ae ae ae ae ae ak ?_
 have iU:f≠[]:=λe=>by rw[e]at Fl;simp at Fl
 refine rr ae (rr ae (aj (rr ae ?_)))
 refine aH (bA (α:=List Int×List Int×Nat) (λx=>⟨[(1,cU x.2.2),(2,MN f p),(3,.c (.P 0 0)),(6,.c (.P 1000 0)),(7,.c (.P 1001000 0))],[(0,.box 101 0 [.S aM x.2.1,.I .u64 p]),(1000,.box 101 0 [.V (.slice none 0 0),.I .u64 0]),(1001000,.box 101 0 [.S aM x.1,.I .u64 p])],3,[]⟩) (λx=>bX p x.1∧bX p x.2.1∧x.1.length<f.length∧x.2.1.length<f.length∧x.2.2<18446744073709551616∧(fx f:Fx p)∣fx x.1*pk (fx x.2.1) x.2.2-pk (fx a) n) (λx=>x.2.2) (a,a,n-1) ⟨ha,ha,Fl,Fl,by show n-1<_;omega,?_⟩ (wk ⟨sE ae ?_,sR ae,sR ae,sR ae,sR ae,ah⟩ ⟨bE ae ae,bE ae ae,bE ae ae,ah⟩) ?_)
 ·obtain⟨m,rfl⟩:∃m,n=m+1:=⟨n-1,by omega⟩;show fx f∣fx a*pk (fx a) (m+1-1)-pk (fx a) (m+1);rw[iY,pk,mul_comm (fx a)];exact xl _ _
 ·exact ay (λz=>AV.c (C.I .u64 z)) (show IntKind.wrap .u64 ((n:Int)-1)=((n-1:Nat):Int)from(wrap_u64 _ af af).trans af)
 rintro⟨r,b,m⟩ ⟨hr,hb,lr,lb,hm,hc⟩
 simp only at hr hb lr lb hm hc
 have qT:=S7 H (a:=b) (b:=b) hf iU
 have vf:aG Tryz.prog 159 ([aP f p]++([aP b p,aP b p]++[])) (aP (sc p f b b) p):=Im p H.hp H.le f b b af af af hf hb hb iU
 refine aj (rr ae (ax ae (λh=>?_) (λh=>?_)))
 ·have h:0<m:=by have h:(m:Int)>0:=a9 h;omega
  refine aC (ai (aj (aH (aj (rr ae (hp:=aN) (ax ae (λh2=>?_) (λh2=>?_)))))))
  ·have h2:(m:Int).tmod 2=1:=eq_of_beq h2;have ni:m%2=1:=by rw[show(2:Int)=((2:Nat):Int)from ae,lC]at h2;omega
   obtain⟨k,rfl⟩:∃k,m=2*k+1:=⟨m/2,by omega⟩;have S8:=S7 H (a:=r) (b:=b) hf iU;have lR:aG Tryz.prog 159 ([aP f p]++([aP r p,aP b p]++[])) (aP (sc p f r b) p):=Im p H.hp H.le f r b af af af hf hr hb iU;refine cK (CG ae ae (.inr ⟨_,_,ae,ae,ae⟩) ae lR (re ae (ai ?_)));refine cK (CG ae ae (.inr ⟨_,_,ae,ae,ae⟩) ae vf (re ae (a6 (ai (rt ae (hp:=aN) (a8 (sc p f r b,sc p f b b,k) ⟨S8.1,qT.1,S8.2.1,qT.2.1,by show k<_;omega,?_⟩ (by show k<2*k+1;omega) (wk ⟨sE ae ?_,sR ae,sR ae,sR ae,sR ae,ah⟩ ⟨bE ae ae,bE ae ae,bE ae ae,ah⟩)))))))
   ·show fx f∣fx (sc p f r b)*pk (fx (sc p f b b)) k-pk (fx a) n;refine rZ (E4 S8.2.2 (Cw qT.2.2 k)) ?_;rw[xm,mul_assoc,←tn];have e:fx b*pk (fx b) (k+k)=(pk (fx b) (2*k+1):Fx p):=by rw[mul_comm,show k+k=2*k by omega];rfl
    rw[e];exact hc
   ·exact ay (λz=>AV.c (C.I .u64 z)) ((Cj (2*k+1) hm).trans (show((((2*k+1)/2:Nat)):Int)=(k:Int)by omega))
  ·have h2:(m:Int).tmod 2≠1:=kU h2;have eT:m%2=0:=by rw[show(2:Int)=((2:Nat):Int)from ae,lC]at h2;omega
   obtain⟨k,rfl⟩:∃k,m=2*k:=⟨m/2,by omega⟩;refine aC (ai ?_);refine cK (CG ae ae (.inr ⟨_,_,ae,ae,ae⟩) ae vf (re ae (a6 (ai (rt ae (hp:=aN) (a8 (r,sc p f b b,k) ⟨hr,qT.1,lr,qT.2.1,by show k<_;omega,?_⟩ (by show k<2*k;omega) (wk ⟨sE ae ?_,sR ae,sR ae,sR ae,sR ae,ah⟩ ⟨bE ae ae,bE ae ae,bE ae ae,ah⟩)))))))
   ·show fx f∣fx r*pk (fx (sc p f b b)) k-pk (fx a) n;refine rZ (E4 (xl _ (fx r)) (Cw qT.2.2 k)) ?_;rw[xm,←tn,show k+k=2*k by omega];exact hc
   ·exact ay (λz=>AV.c (C.I .u64 z)) ((Cj (2*k) hm).trans (show((((2*k)/2:Nat)):Int)=(k:Int)by omega))
 ·have h:m=0:=by have h:¬(m:Int)>0:=bC h;omega
  subst h;rw[pk,mul_one]at hc;rw[aln H hf iU hr lr hc];exact bh (bt (bq (bp (ai (rr ae (aF (aL ar ae (au.refl _))))))))
def j5(p:Nat):List (List Int)→Fx p
 |[]=>1
 |g::l=>fx g*j5 p l
def S9(p:Nat):∀l m:List (List Int),j5 p (l++m)=j5 p l*j5 p m
 |[],m=>(one_mul _).symm
 |g::l,m=>by rw[mX,j5,j5,S9 p l m,mul_assoc]
def Fm(p:Nat):∀{l:List (List Int)}{g:List Int},g∈l→(fx g:Fx p)∣j5 p l
 |h::l,g,hg=>by
  rcases dC.1 hg with rfl|hg
  ·exact dvd_mul_right _ _
  ·exact fl (Fm p hg) _
structure S'(p:Nat)(f:List Int)(V:Fx p)(l:List (List Int)):Prop where
 parts:∀g∈l,Mon p g∧2≤g.length∧∃c,(fx g:Fx p)∣V-K c
 prod:j5 p l=fx f
noncomputable def ko{p:Nat}(H:bI p)(f v:List Int)(s:Int):List Int:=
 if 2<p then a7 (jv (mM H f (pk (fx (a7 (jv v 1 (a7 [s]) p))) ((p-1)/2))) (p-1) [1] p)else a7 (jv v 1 (a7 [s]) p)
def aaB{p:Nat}(f:List Int)(s:Int)(g:List Int):(fx (a7 (jv f s g p)):Fx p)=fx f+K s*fx g:=by rw[xn];exact mk_eq.2 (ZT f s g p)
def alo{p:Nat}(s:Int):(fx (a7 [s]):Fx p)=K s:=by rw[xn,SD]
def Ta{p:Nat}(H:bI p){f v:List Int}(hf:bX p f)(iU:f≠[])(hv:bX p v)(br:v.length<f.length)(kD:1≤v.length){s:Nat}(hs:s<p):bX p (ko H f v s)∧(fx f:Fx p)∣fx (ko H f v s)-AI p (fx v) s:=by
 have h2:=H.hp.1;have fM:rp p (a7 [(s:Int)]):=Mh H.pos (xi af af);have h1:bX p (a7 (jv v 1 (a7 [(s:Int)]) p)):=nJ H.pos (Ik H.pos hv.1 _ _);have e1:(fx (a7 (jv v 1 (a7 [(s:Int)]) p)):Fx p)=fx v+K s:=by rw[aaB,alo,l7,one_mul]
 unfold ko AI;by_cases hp:2<p
 ·rw[aw hp,aq af,e1];obtain⟨m1,m2,m3⟩:=CH H hf iU (pk (fx v+K (s:Int):Fx p) ((p-1)/2));refine⟨nJ H.pos (Ik H.pos m1.1 _ _),?_⟩;have e2:(K ((p:Int)-1):Fx p)*fx [1]= -1:=by rw[Mv,mul_one,E5,K_p,l7,sub_def,zero_add]
  rw[aaB,e2];exact SB m3 (xl _ _)
 ·rw[aq hp,aw af,e1];exact⟨h1,xl _ _⟩
def least{P:Nat→Prop}:∀n,P n→∃m,m≤n∧P m∧∀k,k<m→¬P k:=by
 intro n;induction n using Nat.strongRecOn with
 |_ n ih=>
  intro h
  by_cases e:∃k,k<n∧P k
  ·obtain⟨k,h1,h2⟩:=e;obtain⟨m,h3,h4,h5⟩:=ih k h1 h2;exact⟨m,by omega,h4,h5⟩
  ·exact⟨n,bD _,h,λk hk hp=>e ⟨k,hk,hp⟩⟩
def CI{p:Nat}(H:bI p)(f v:List Int)(s:Nat):Prop:=1<(gx p f (ko H f v s)).length∧(gx p f (ko H f v s)).length<f.length
def alp{p:Nat}(H:bI p){f v:List Int}(hf:Mon p f)(h2:2≤f.length)(hs:lE (fx f:Fx p))(hv:bX p v)(br:v.length<f.length)(sK:2≤v.length)(hV:(fx f:Fx p)∣pk (fx v) p-fx v):∃s,s<p∧CI H f v s∧∀k,k<s→¬CI H f v k:=by
 have hn:∀c,¬(fx f:Fx p)∣fx v-K c:=by intro c hd;have h1:=vK H hd (by have h3:=Iq H.pos (fx v:Fx p) (K c);have h4:=E6 H.pos c (p:=(p:Int));rw[dj hv]at h3;rw[dj hf.c];omega);have h5:=EZ h1;have h4:=E6 H.pos c (p:=(p:Int));rw[←h5,dj hv]at h4;omega
 obtain⟨s,oi,Q1,Q2,i1,i2,d1,d2,t1,t2⟩:=sep H (by rw[dj hf.c];exact h2) hs hV hn;obtain⟨c1,c2⟩:=Ta H hf.c hf.ne hv br af oi;obtain⟨m1,m2,m3,U,W,m4⟩:=Ff H hf.c c1 hf.ne;have hg:CI H f v s:=by
  have q1:Q1∣fx (ko H f v s):=E3 (dvd_trans d1 c2) t1;have q2:¬Q2∣fx (ko H f v s):=λh=>t2 (E3 (nL (dvd_trans d2 c2)) h)
  have g0:=m1.nj H;have g1:Q1∣fx (gx p f (ko H f v s)):=by rw[m4];exact dvd_add (fl d1 U) (fl q1 W)
  have g2:=j3 H g1 g0;have g3:=j3 H m2 (hf.nj H);have g4:=i1.1;rw[dj m1.c]at g2 g3;rw[dj hf.c]at g3;refine⟨by omega,?_⟩;by_cases e:(gx p f (ko H f v s)).length<f.length
  ·exact e
  ·exfalso;obtain⟨w,hw⟩:=m2;have w0:w≠0:=λe=>hf.nj H (by rw[hw,e,zero_mul])
   have h6:=eH H w0 g0;rw[←hw,dj hf.c,dj m1.c]at h6;obtain⟨C,hC⟩:=xp H (show sz w=1 by omega);refine q2 (dvd_trans d2 (dvd_trans ⟨C,?_⟩ m3));rw[hw,←mul_assoc,hC,one_mul]
 obtain⟨m,h1,h2,h3⟩:=least s hg;exact⟨m,by omega,h2,h3⟩
def alq{p:Nat}(H:bI p){f v:List Int}(hf:Mon p f)(hs:lE (fx f:Fx p))(hv:bX p v)(br:v.length<f.length)(sK:2≤v.length)(hV:(fx f:Fx p)∣pk (fx v) p-fx v){s:Nat}(oi:s<p)(hg:CI H f v s):
  let g:=gx p f (ko H f v s)
  let h:=(bM f g p).1
  (Mon p g∧2≤g.length∧g.length<f.length∧lE (fx g:Fx p)∧(fx g:Fx p)∣pk (fx v) p-fx v)∧(Mon p h∧2≤h.length∧h.length<f.length∧lE (fx h:Fx p)∧(fx h:Fx p)∣pk (fx v) p-fx v)∧(fx f:Fx p)=fx h*fx g:=by
 intro g h
 obtain⟨c1,c2⟩:=Ta H hf.c hf.ne hv br af oi
 obtain⟨m1,m2,m3,_⟩:=Ff H hf.c c1 hf.ne
 have hg1:1<g.length:=hg.1
 have Ad:g.length<f.length:=hg.2
 have q1:Mon p h:=My H hf m1 af
 have q2:(fx f:Fx p)=fx h*fx g:=AJ H hf.c m1.c m1.ne m2
 obtain⟨_,_,_,_,_,q3⟩:=lD H.hp H.le hf.c.1 m1.c m1.ne
 have q3:h.length=f.length-(g.length-1):=q3
 have q4:(fx h:Fx p)∣fx f:=by rw[q2];exact dvd_mul_right _ _
 exact⟨⟨m1,by omega,Ad,hs.of_dvd m2,dvd_trans m2 hV⟩,⟨q1,by omega,by omega,hs.of_dvd q4,dvd_trans q4 hV⟩,q2⟩
def alr{w:List Int}(h:w.length<2):w=[]∨∃c,w=[c]:=by
 cases w with
 |nil=>exact .inl ae
 |cons c w=>
  cases w with
  |nil=>exact .inr ⟨c,ae⟩
  |cons d w=>simp at h;omega
abbrev PT:ET:= .pr (.sl aM) aM
abbrev lP(p:Nat)(l:List (List Int)):List (List Int×Int):=l.map λg=>(g,(p:Int))
set_option maxHeartbeats 8000000 in
def Tb{p:Nat}(H:bI p):∀(N:Nat)(f v:List Int),f.length<N→f.length≤200→Mon p f→2≤f.length→lE (fx f:Fx p)→bX p v→v≠[]→v.length≤200→(fx f:Fx p)∣pk (fx v) p-fx v→
  ∃l,S' p f (fx v) l∧l.length+1≤f.length∧m9 Tryz.prog 184 [aP f p,aP v p] 101 PT (lP p l)
 |0,_,_,h,_,_,_,_,_,_,_,_=>by omega
 |N+1,f,v,hN,lf,hf,h2,hs,hv,oS,lv,hV=>by
  have iN:=H.hp.1;have Eh:=H.le;have vE:(p:Int)≠0:=af;obtain⟨d1,d2,d3,d4,d5,d6⟩:=lD H.hp H.le hv.1 hf.c hf.ne;have qY:=SO H hv hf.c hf.ne;have jF:=yH p H.hp H.le v f af af hv.1 hf.c oS hf.ne;have hw:=d5 hv;generalize hwE:(bM v f p).2=w at*;have hwV:(fx f:Fx p)∣pk (fx w) p-fx w:=rZ (Cw qY p) (rZ hV (nL qY));by_cases vB:w.length<2
  ·refine⟨[f],⟨λg hg=>?_,by rw[j5,j5,mul_one]⟩,by simp;omega,?_⟩
   ·have e:=jJ.1 hg;subst e;refine⟨hf,h2,?_⟩;rcases alr vB with e|⟨c,e⟩
    ·exact⟨0,by rw[mK,←og,←e];exact nL qY⟩
    ·exact⟨c,by rw[←SD,←e];exact nL qY⟩
   ·refine Af Tryz.func184 ae ae ae ae ak ?_;refine rr ae (rb (rc ae ae jF (re ae ?_)));refine aj (rb (rc ae ae (uv w p af) (re ae (ax ae (λh=>?_) (λh=>?_)))))
    ·exact rb (yr PT [(f,(p:Int))] ae ae (re ae (aF (bS (yu (id:=3001000) ar ae ae)))))
    ·exfalso;have h:¬(w.length:Int)-1<1:=bC h;omega
  ·have br:w.length<f.length:=by omega
   have xu:2≤w.length:=af;obtain⟨s0,Ag,hG,Rg⟩:=alp H hf h2 hs hw br xu hwV;obtain⟨⟨a1,a2,a3,a4,a5⟩,⟨b1,b2,b3,b4,b5⟩,e0⟩:=alq H hf hs hw br xu hwV Ag hG;have Tc:w≠[]:=λe=>by rw[e]at xu;simp at xu
   obtain⟨l1,o1,n1,k1⟩:=Tb H N _ w af af a1 a2 a4 hw Tc af a5;obtain⟨l2,o2,n2,k2⟩:=Tb H N _ w af af b1 b2 b4 hw Tc af b5;have hlen:(gx p f (ko H f w s0)).length+(bM f (gx p f (ko H f w s0)) p).1.length=f.length+1:=by have h3:=eH H (b1.nj H) (a1.nj H);rw[←e0,dj hf.c,dj b1.c,dj a1.c]at h3;omega
   refine⟨l1++l2,⟨λg hg=>?_,?_⟩,by rw[kA];omega,?_⟩
   ·have up:∀c,(fx g:Fx p)∣fx f→(fx g:Fx p)∣fx w-K c→(fx g:Fx p)∣fx v-K c:=λc e1 e2=>rZ (nL (dvd_trans e1 qY)) e2
    rcases b6.1 hg with hg|hg
    ·obtain⟨q1,q2,c,q3⟩:=o1.parts g hg;refine⟨q1,q2,c,up c ?_ q3⟩;rw[e0,←o1.prod];exact fl (Fm p hg) _
    ·obtain⟨q1,q2,c,q3⟩:=o2.parts g hg;refine⟨q1,q2,c,up c ?_ q3⟩;rw[e0,←o2.prod];exact qU (Fm p hg) _
   ·rw[S9,o1.prod,o2.prod,e0,mul_comm]
   have tj:(lP p l1).length=l1.length∧(lP p l2).length=l2.length:=⟨dM _,dM _⟩;rw[show lP p (l1++l2)=lP p l1++lP p l2 from eh];refine Af Tryz.func184 ae ae ae ae ak ?_;refine rr ae (rb (rc ae ae jF (re ae ?_)));refine aj (rb (rc ae ae (uv w p af) (re ae (ax ae (λh=>?_) (λh=>aC (ai ?_))))))
   ·exfalso;have h:(w.length:Int)-1<1:=a9 h;omega
   refine aj (rr ae (aH (bA (α:=Nat) (λs=>⟨[(2,.c (.P 0 0)),(3,.c (.P 1000 0)),(22,cU p),(23,cU s)],[(0,.box 101 0 [.S aM f,.I .u64 p]),(1000,.box 101 0 [.S aM w,.I .u64 p])],4,[]⟩) (λs=>s≤s0) (λs=>p-s) 0 (bK _) (wk ⟨sR ae,sR ae,sR ae,sR ae,ah⟩ ⟨bE ae ae,bE ae ae,ah⟩) ?_)));intro s zO;have oi:s<p:=af;refine rr ae (aj (ax ae (λh=>aC (ai (aj (aH ?_)))) (λh=>?_)));rotate_left
   ·exfalso;have h:¬(s:Int)<(p:Int):=bC h;omega
   have hconst:=AA f s p H.pos af af af;have fM:rp p (a7 [(s:Int)]):=Mh H.pos (xi af af);have yz:(a7 [(s:Int)]).length≤1:=vJ _;have als:=Sv w 1 (a7 [(s:Int)]) p af af H.pos af hw.1 fM ⟨by omega,by omega⟩ (.inl Tc);obtain⟨c1,c2⟩:=Ta H hf.c hf.ne hw br af oi;have lS:(a7 (jv w 1 (a7 [(s:Int)]) p)).length≤w.length:=by have:=vJ (jv w 1 (a7 [(s:Int)]) p);rw[Mn]at this;omega
   have htc:bX p (a7 (jv w 1 (a7 [(s:Int)]) p)):=nJ H.pos (Ik H.pos hw.1 _ _);have Td:ko H f w s=if 2<p then a7 (jv (mM H f (pk (fx (a7 (jv w 1 (a7 [(s:Int)]) p))) ((p-1)/2))) (p-1) [1] p)else a7 (jv w 1 (a7 [(s:Int)]) p):=rfl
   have htL:(ko H f w s).length≤f.length:=by
    rw[Td];split
    ·have:=vJ (jv (mM H f (pk (fx (a7 (jv w 1 (a7 [(s:Int)]) p))) ((p-1)/2))) ((p:Int)-1) [1] p);have:=(CH H hf.c hf.ne (pk (fx (a7 (jv w 1 (a7 [(s:Int)]) p))) ((p-1)/2))).2.1;rw[Mn]at*;simp only[fv,mr]at*;omega
    ·omega
   have Te:=Mm p H.hp H.le f (ko H f w s) af af hf.c c1 hf.ne;generalize aT:a7 (jv w 1 (a7 [(s:Int)]) p)=t at*;refine rr ae (rb (rc ae ae hconst (rc ae ae als (re ae ?_))));refine yB ⟨[(2,.c (.P 0 0)),(3,.c (.P 1000 0)),(6,.c (.P 6005000 0)),(22,cU p),(23,cU s)],[(0,.box 101 0 [.S aM f,.I .u64 p]),(1000,.box 101 0 [.S aM w,.I .u64 p]),(6005000,.box 101 0 [.S aM (ko H f w s),.I .u64 p])],9,[]⟩ ?_ (λje=>rr ae (ax ae (λh3=>?_) (λh3=>aC (nG je (wk ⟨sR ae,sR ae,sR ae,sR ae,sR ae,ah⟩ ⟨bE ae ae,bE ae ae,bE ae ?_,ah⟩)))))
   ·obtain⟨m1,m2,m3,_⟩:=Ff H hf.c c1 hf.ne;have jP:(gx p f (ko H f w s)).length≤f.length:=by have:=j3 H m2 (hf.nj H);rwa[dj m1.c,dj hf.c]at this
    have Tf:CI H f w s↔1<(gx p f (ko H f w s)).length∧(gx p f (ko H f w s)).length<f.length:=Iff.rfl;have next:¬CI H f w s→s+1≤s0:=λhn=>by
     rcases wI s s0 with e|e
     ·exact e
     ·exact absurd (show CI H f w s by rw[show s=s0 by omega];exact hG) hn
    refine rb (rc ae ae Te (re ae (rb (rc ae ae (uv (gx p f (ko H f w s)) p af) (rg 54 ae ae (λh1=>?_) (λh1=>?_))))))
    ·have h1:((gx p f (ko H f w s)).length:Int)-1>0:=a9 h1;refine fj ae ae ae ae ae (uv (gx p f (ko H f w s)) p af) (fj ae ae ae ae ae (uv f p af) (re ae (ax ae (λh2=>?_) (λh2=>?_))))
     ·have h2:((gx p f (ko H f w s)).length:Int)-1<(f.length:Int)-1:=a9 h2;have es:s=s0:=by
       rcases wI s s0 with e|e
       ·exact absurd (Tf.2 ⟨by omega,by omega⟩) (Rg s e)
       ·omega
      subst es;have alv:=yH p H.hp H.le f (gx p f (ko H f w s)) af af hf.c.1 m1.c hf.ne m1.ne;refine rb (rc ae ae alv (re ae (rb (w9 ae ae k1 (rc ae ae k2.fs (ra ae ae ae ae ae ae ae ae ae ?_ ?_ (re ae (aF (fq (bS (gU (fq (bS (yu (id:=12006000) ar ae ae))))))))))))))
      ·show(_+_+(_+_)/4+192)*32≤_;omega
      ·show(_+_)*2≤_;omega
     ·have h2:¬((gx p f (ko H f w s)).length:Int)-1<(f.length:Int)-1:=bC h2;refine aC (a6 (ai (rt ae (hp:=aN) (a8 (s+1) (next λhn=>by have:=(Tf.1 hn).2;omega) (by show p-(s+1)<p-s;omega) (wk ⟨sR ae,sR ae,sR ae,sE ae ?_,ah⟩ ⟨bE ae ae,bE ae ae,ah⟩)))));exact ay (λz=>AV.c (C.I .u64 z)) (wrap_u64 _ af af)
    ·have h1:¬((gx p f (ko H f w s)).length:Int)-1>0:=bC h1;refine re ae (ax ae (λh2=>by cases h2) (λh2=>aC (a6 (ai (rt ae (hp:=aN) (a8 (s+1) (next λhn=>by have:=(Tf.1 hn).1;omega) (by show p-(s+1)<p-s;omega) (wk ⟨sR ae,sR ae,sR ae,sE ae ?_,ah⟩ ⟨bE ae ae,bE ae ae,ah⟩)))))));exact ay (λz=>AV.c (C.I .u64 z)) (wrap_u64 _ af af)
   ·have h3:(p:Int)>2:=a9 h3;have e1:IntKind.wrap .u64 ((p:Int)-1)=(p:Int)-1:=wrap_u64 _ af af;have e2:IntKind.wrap .u64 ((IntKind.wrap .u64 ((p:Int)-1)).tdiv 2)=(((p-1)/2:Nat):Int):=by rw[e1,show(p:Int)-1=((p-1:Nat):Int)by omega];exact Cj (p-1) af
    have IK:aG Tryz.prog 182 [aP t p,cU (IntKind.wrap .u64 ((IntKind.wrap .u64 ((p:Int)-1)).tdiv 2)),MN f p] (aP (mM H f (pk (fx t) ((p-1)/2))) p):=by rw[e2];exact aaA H f t _ af hf.c htc af af af
    obtain⟨z1,z2,z3⟩:=CH H hf.c hf.ne (pk (fx t) ((p-1)/2));have Tg:aG Tryz.prog 125 [aP f p,cU 1] (aP [1] p):=by have:=AA f 1 p H.pos af af af;rwa[Ij ak]at this
    have alw:aG Tryz.prog 233 [aP (mM H f (pk (fx t) ((p-1)/2))) p,cU (IntKind.wrap .u64 ((p:Int)-1)),aP [1] p] (aP (a7 (jv (mM H f (pk (fx t) ((p-1)/2))) (p-1) [1] p)) p):=by rw[e1];exact Sv _ _ [1] p af be H.pos af z1.1 (xi af af) ⟨by omega,by omega⟩ (.inr be)
    refine cK (ML ae ae ae (rc ae ae IK (rc ae ae Tg (rc ae ae alw (re ae (nG je (wk ⟨sR ae,sR ae,sR ae,sR ae,sR ae,ah⟩ ⟨bE ae ae,bE ae ae,bE ae ?_,ah⟩)))))));rw[Td,aw af];rfl
   ·have h3:¬(p:Int)>2:=bC h3;rw[Td,aq af];rfl
end Go.El
namespace Go.El
def ib(n:Nat)(a w:Nat→Int):Int:=sm (λc=>a c*w c) n
def se(p n:Nat)(G:Nat→Nat→Int)(w:Nat→Int):Prop:=∀r,r<n→ib n (G r) w%(p:Int)=0
def IL{p:Int}{f g:Nat→Int}:∀{k:Nat},(∀i,i<k→f i%p=g i%p)→sm f k%p=sm g k%p
 |0,_=>rfl
 |k+1,h=>by rw[sm,sm,u5,IL (λi hi=>h i af),h k af,←u5]
def alx(n:Nat)(a b w:Nat→Int)(x:Int):ib n (λc=>a c+x*b c) w=ib n a w+x*ib n b w:=by unfold ib;rw[←uw,←Ck];exact fZ λi _=>by rw[lK,ke]
def aaD(n:Nat)(a w v:Nat→Int)(x:Int):ib n a (λc=>w c+x*v c)=ib n a w+x*ib n a v:=by unfold ib;rw[←uw,←Ck];exact fZ λi _=>by rw[px,WU]
def aly(n:Nat)(a w:Nat→Int)(x:Int):ib n (λc=>a c*x) w=x*ib n a w:=by unfold ib;rw[←uw];exact fZ λi _=>by rw[ke,WU]
def aaE{p a b c d:Int}(h:a%p=b%p)(k:c%p=d%p):a*c%p=b*d%p:=by rw[mY,h,k,←mY]
def aaF{p:Int}{n:Nat}{a b w v:Nat→Int}(h:∀c,c<n→a c%p=b c%p)(k:∀c,c<n→w c%p=v c%p):ib n a w%p=ib n b v%p:=IL λi hi=>aaE (h i hi) (k i hi)
def Fo{f:Nat→Int}{a:Nat}:∀{n:Nat},a<n→(∀i,i<n→i≠a→f i=0)→sm f n=f a
 |0,h,_=>by omega
 |n+1,h,hz=>by
  rw[sm];by_cases e:a=n
  ·subst e;rw[oe (λi hi=>hz i af af)];omega
  ·rw[Fo af (λi hi aR=>hz i af aR),hz n af af];omega
def aaG{f:Nat→Int}{a b:Nat}:∀{n:Nat},a<n→b<n→a≠b→(∀i,i<n→i≠a→i≠b→f i=0)→sm f n=f a+f b
 |0,h,_,_,_=>by omega
 |n+1,ha,hb,kQ,hz=>by
  rw[sm];by_cases e:a=n
  ·subst e;rw[Fo (show b<a by omega) (λi hi aR=>hz i af af aR)];omega
  ·by_cases e2:b=n
   ·subst e2;rw[Fo (show a<b by omega) (λi hi aR=>hz i af aR af)]
   ·rw[aaG af af kQ (λi hi h1 h2=>hz i af h1 h2),hz n af af af];omega
structure KI(p n:Nat)(G0 G:Nat→Nat→Int)(j:Nat)(bF free:List Nat):Prop where
 bV:∀r,r<n→∀c,0≤G r c∧G r c<p
 AK:∀w,se p n G w↔se p n G0 w
 pl:bF.length≤n
 unit:∀k,k<bF.length→∀r,r<n→G r (bF.getD k 0)=if r=k then 1 else 0
 zero:∀r,bF.length≤r→r<n→∀c,c<j→G r c=0
 cover:∀c,c<j→(∃k,k<bF.length∧bF.getD k 0=c)∨∃q,q<free.length∧free.getD q 0=c
 pb:∀k,k<bF.length→bF.getD k 0<j
 fb:∀q,q<free.length→free.getD q 0<j
 ne:∀k q,k<bF.length→q<free.length→bF.getD k 0≠free.getD q 0
 fd:∀q q',q<free.length→q'<free.length→free.getD q 0=free.getD q' 0→q=q'
def vM(l:List Nat)(x:Nat){k:Nat}(h:k<l.length):(l++[x]).getD k 0=l.getD k 0:=by rw[aU,Gt h,←aU]
def yS(l:List Nat)(x:Nat):(l++[x]).getD l.length 0=x:=be
def KI.start{p n:Nat}{G0:Nat→Nat→Int}(h:∀r,r<n→∀c,0≤G0 r c∧G0 r c<p):KI p n G0 G0 0 [] [] where
 bV:=h
 AK:=λ_=>Iff.rfl
 pl:=bK _
 unit:=λk hk=>by simp at hk
 zero:=λ_ _ _ c hc=>by omega
 cover:=λc hc=>by omega
 pb:=λk hk=>by simp at hk
 fb:=λk hk=>by simp at hk
 ne:=λk _ hk=>by simp at hk
 fd:=λq _ hq=>by simp at hq
def KI.none{p n:Nat}{G0 G:Nat→Nat→Int}{j:Nat}{bF free:List Nat}(h:KI p n G0 G j bF free)(hz:∀i,bF.length≤i→i<n→G i j=0):KI p n G0 G (j+1) bF (free++[j]) where
 bV:=h.bV
 AK:=h.AK
 pl:=h.pl
 unit:=h.unit
 zero:=λr h1 h2 c hc=>by
  by_cases e:c=j
  ·subst e;exact hz r h1 h2
  ·exact h.zero r h1 h2 c af
 cover:=λc hc=>by
  by_cases e:c=j
  ·subst e;exact .inr ⟨free.length,by simp,yS _ _⟩
  ·rcases h.cover c af with h1|⟨q,h1,h2⟩
   ·exact .inl h1
   ·exact .inr ⟨q,by simp;omega,by rw[vM _ _ h1];exact h2⟩
 pb:=λk hk=>by have:=h.pb k hk;omega
 fb:=λq hq=>by
  simp only[kA,fv,mr]at hq;by_cases e:q=free.length
  ·subst e;rw[yS];omega
  ·rw[vM _ _ af];have:=h.fb q af;omega
 ne:=λk q hk hq=>by
  simp only[kA,fv,mr]at hq;by_cases e:q=free.length
  ·subst e;rw[yS];have:=h.pb k hk;omega
  ·rw[vM _ _ af];exact h.ne k q hk af
 fd:=λq q' hq AL e=>by
  simp only[kA,fv,mr]at hq AL;by_cases e1:q=free.length<;>by_cases e2:q'=free.length
  ·omega
  ·subst e1;rw[yS,vM _ _ af]at e;have:=h.fb q' af;omega
  ·subst e2;rw[yS,vM _ _ af]at e;have:=h.fb q af;omega
  ·rw[vM _ _ af,vM _ _ af]at e;exact h.fd q q' af af e
def kp(G:Nat→Nat→Int)(k i:Nat):Nat→Nat→Int:=λr=>if r=k then G i else if r=i then G k else G r
def kK(p:Nat)(G:Nat→Nat→Int)(k:Nat)(v:Int):Nat→Nat→Int:=λr c=>if r=k then G k c*v%(p:Int)else G r c
def pW(p:Nat)(G:Nat→Nat→Int)(k j:Nat):Nat→Nat→Int:=λr c=>if r≠k∧G r j≠0 then(G r c+((p:Int)-G r j)*G k c)%(p:Int)else G r c
def KI.some{p n:Nat}(H:bI p){G0 G:Nat→Nat→Int}{j:Nat}{bF free:List Nat}(h:KI p n G0 G j bF free){i:Nat}{v:Int}(h1:bF.length≤i)(h2:i<n)(hv:G i j*v%(p:Int)=1):
  KI p n G0 (pW p (kK p (kp G bF.length i) bF.length v) bF.length j) (j+1) (bF++[j]) free:=by
 have hp:=H.pos
 generalize hk:bF.length=k at*
 have eS:k<n:=af
 have alz:∀r,r<n→∀c,0≤kp G k i r c∧kp G k i r c<p:=by
  intro r hr c;unfold kp;split
  ·exact h.bV i h2 c
  ·split
   ·exact h.bV k eS c
   ·exact h.bV r hr c
 have alA:∀c,kp G k i k c=G i c:=λc=>by unfold kp;rw[aw ae]
 have aaH:∀k',k'<k→∀r,r<n→kp G k i r (bF.getD k' 0)=if r=k' then 1 else 0:=by
  intro k' dx r hr;unfold kp;by_cases e1:r=k
  ·subst e1;rw[aw ae,h.unit k' af i h2,aq af,aq af]
  ·rw[aq e1];by_cases e2:r=i
   ·subst e2;rw[aw ae,h.unit k' af k eS,aq af,aq af]
   ·rw[aq e2,h.unit k' af r hr]
 have aaI:∀r,k≤r→r<n→∀c,c<j→kp G k i r c=0:=by
  intro r hr om c hc;unfold kp;split
  ·exact h.zero i af h2 c hc
  ·split
   ·exact h.zero k af eS c hc
   ·exact h.zero r af om c hc
 have alB:∀w,se p n (kp G k i) w↔se p n G w:=by
  intro w;constructor
  ·intro hs r hr;by_cases e1:r=k
   ·subst e1;have:=hs i h2;unfold kp at this;by_cases e2:i=r
    ·subst e2;simpa using this
    ·simpa[e2]using this
   ·by_cases e2:r=i
    ·subst e2;have:=hs k eS;unfold kp at this;simpa using this
    ·have:=hs r hr;unfold kp at this;simpa[e1,e2]using this
  ·intro hs r hr;unfold kp;split
   ·exact hs i h2
   ·split
    ·exact hs k eS
    ·exact hs r hr
 generalize kp G k i=G1 at*
 have kD:G1 k j*v%(p:Int)=1:=by rw[alA];exact hv
 have MO:∀c,kK p G1 k v k c=G1 k c*v%p:=λc=>by unfold kK;rw[aw ae]
 have MQ:∀r c,r≠k→kK p G1 k v r c=G1 r c:=λr c hr=>by unfold kK;rw[aq hr]
 have Th:∀r,r<n→∀c,0≤kK p G1 k v r c∧kK p G1 k v r c<p:=by
  intro r hr c;unfold kK;split
  ·exact⟨gZ _ af,iv _ hp⟩
  ·exact alz r hr c
 have alC:∀w,se p n (kK p G1 k v) w↔se p n G1 w:=by
  intro w;have key:ib n (kK p G1 k v k) w%(p:Int)=v*ib n (G1 k) w%p:=by rw[←aly];exact aaF (λc _=>by rw[MO,k8]) (λ_ _=>rfl)
  constructor
  ·intro hs r hr;by_cases e:r=k
   ·subst e;have h3:=hs r hr;rw[key]at h3;have h4:G1 r j*(v*ib n (G1 r) w)%(p:Int)=0:=by rw[mY,h3,et,dk]
    rw[←ke,mY,kD,ja,k8]at h4;exact h4
   ·have:=hs r hr;have e2:kK p G1 k v r=G1 r:=funext λc=>MQ r c e
    rwa[e2]at this
  ·intro hs r hr;by_cases e:r=k
   ·subst e;rw[key,mY,hs r hr,et,dk]
   ·have e2:kK p G1 k v r=G1 r:=funext λc=>MQ r c e
    rw[e2];exact hs r hr
 have aaJ:∀k',k'<k→∀r,r<n→kK p G1 k v r (bF.getD k' 0)=if r=k' then 1 else 0:=by
  intro k' dx r hr;by_cases e:r=k
  ·subst e;rw[MO,aaH k' dx r hr,aq af,kO,dk]
  ·rw[MQ r _ e,aaH k' dx r hr]
 have aaK:∀r,k≤r→r<n→∀c,c<j→kK p G1 k v r c=0:=by
  intro r hr om c hc;by_cases e:r=k
  ·subst e;rw[MO,aaI r hr om c hc,kO,dk]
  ·rw[MQ r _ e,aaI r hr om c hc]
 have aaL:kK p G1 k v k j=1:=by rw[MO];exact kD
 generalize kK p G1 k v=G2 at*
 have Er:∀c,pW p G2 k j k c=G2 k c:=λc=>by unfold pW;rw[aq (λh=>h.1 ae)]
 have vv:∀r,r<n→∀c,G2 k c=0→pW p G2 k j r c=G2 r c:=by
  intro r hr c hc;unfold pW;split
  ·rw[hc,et,nq,iZ (Th r hr c).1 (Th r hr c).2]
  ·rfl
 have aaM:∀r,r<n→pW p G2 k j r j=if r=k then 1 else 0:=by
  intro r hr;by_cases e:r=k
  ·subst e;rw[Er,aw ae,aaL]
  ·rw[aq e];unfold pW;split
   ·rw[aaL,ns,show G2 r j+((p:Int)-G2 r j)=p by omega,Int.emod_self]
   ·rename_i hn;exact gE λh3=>hn ⟨e,h3⟩
 refine⟨?_,?_,by simp;omega,?_,?_,?_,?_,?_,?_,h.fd⟩
 ·intro r hr c;unfold pW;split
  ·exact⟨gZ _ af,iv _ hp⟩
  ·exact Th r hr c
 ·intro w;rw[←h.AK,←alB,←alC];have key:∀r,r<n→r≠k→ib n (G2 k) w%(p:Int)=0→(ib n (pW p G2 k j r) w%(p:Int)=0↔ib n (G2 r) w%(p:Int)=0):=by
   intro r hr BD gV;by_cases e:G2 r j=0
   ·have:pW p G2 k j r=G2 r:=funext λc=>by unfold pW;rw[aq (λh=>h.2 e)]
    rw[this]
   ·have:ib n (pW p G2 k j r) w%(p:Int)=ib n (G2 r) w%(p:Int):=by rw[aaF (b:=λc=>G2 r c+((p:Int)-G2 r j)*G2 k c) (v:=w) (λc _=>by unfold pW;rw[aw ⟨BD,e⟩,k8]) (λ_ _=>rfl),alx,u5,mY _ (ib n (G2 k) w),gV,et,dk,nq,k8]
    rw[this]
  have oR:pW p G2 k j k=G2 k:=funext Er;constructor
  ·intro hs r hr;have gV:=hs k eS;rw[oR]at gV;by_cases e:r=k
   ·subst e;exact gV
   ·exact(key r hr e gV).1 (hs r hr)
  ·intro hs r hr;have gV:=hs k eS;by_cases e:r=k
   ·subst e;rw[oR];exact gV
   ·exact(key r hr e gV).2 (hs r hr)
 ·intro k' dx r hr;simp only[kA,fv,mr]at dx;by_cases e:k'=bF.length
  ·subst e;rw[yS,hk];exact aaM r hr
  ·rw[vM _ _ af,vv r hr _ (by rw[aaJ k' af k eS,aq af]),aaJ k' af r hr]
 ·intro r h3 h4 c hc;simp only[kA,fv,mr]at h3;by_cases e:c=j
  ·subst e;rw[aaM r h4,aq af]
  ·rw[vv r h4 c (aaK k (bD _) eS c af),aaK r af h4 c af]
 ·intro c hc;by_cases e:c=j
  ·subst e;exact .inl ⟨bF.length,by simp,yS _ _⟩
  ·rcases h.cover c af with⟨k',h3,h4⟩|h3
   ·exact .inl ⟨k',by simp;omega,by rw[vM _ _ h3];exact h4⟩
   ·exact .inr h3
 ·intro k' dx;simp only[kA,fv,mr]at dx;by_cases e:k'=bF.length
  ·subst e;rw[yS];omega
  ·rw[vM _ _ af];have:=h.pb k' af;omega
 ·intro q hq;have:=h.fb q hq;omega
 ·intro k' q dx hq;simp only[kA,fv,mr]at dx;by_cases e:k'=bF.length
  ·subst e;rw[yS];have:=h.fb q hq;omega
  ·rw[vM _ _ af];exact h.ne k' q af hq
def KI.basis{p n:Nat}(H:bI p){G0 G:Nat→Nat→Int}{bF free:List Nat}(h:KI p n G0 G n bF free){V:Nat→Nat→Int}(v1:∀q,q<free.length→V q (free.getD q 0)=1)(v2:∀q,q<free.length→∀k,k<bF.length→V q (bF.getD k 0)=((p:Int)-G k (free.getD q 0))%p)(v3:∀q q',q<free.length→q'<free.length→q≠q'→V q (free.getD q' 0)=0):
  (∀q,q<free.length→se p n G0 (V q))∧∀w,se p n G0 w→∀c,c<n→w c%(p:Int)=sm (λq=>w (free.getD q 0)*V q c) free.length%p:=by
 have hp:=H.pos
 have qy:=h.pl
 have row:∀k,k<bF.length→∀d:Nat→Int,(∀q,q<free.length→d (free.getD q 0)%(p:Int)=0)→ib n (G k) d%(p:Int)=d (bF.getD k 0)%p:=by
  intro k hk d hd;let d':Nat→Int:=λc=>if c=bF.getD k 0 then d c else 0
  have e1:ib n (G k) d%(p:Int)=ib n (G k) d'%p:=IL λc hc=>by
   show G k c*d c%(p:Int)=G k c*d' c%p;by_cases e:c=bF.getD k 0
   ·simp only[d',aw e]
   ·simp only[d',aq e,et,dk];rcases h.cover c hc with⟨k',h1,h2⟩|⟨q,h1,h2⟩
    ·have aR:k≠k':=λe2=>e (by rw[e2];exact h2.symm)
     rw[←h2,h.unit k' h1 k af,aq aR,kO,dk]
    ·rw[←h2,mY,hd q h1,et,dk]
  rw[e1];unfold ib;rw[Fo (a:=bF.getD k 0) (h.pb k hk) (λi _ aR=>by simp only[d',aq aR,et]),h.unit k hk k af,aw ae,ja];simp only[d',aw ae]
 have b1:∀q,q<free.length→se p n G (V q):=by
  intro q hq r hr;by_cases e:r<bF.length
  ·have aR:=h.ne r q e hq;have e1:ib n (G r) (V q)%(p:Int)=sm (λc=>if c=free.getD q 0 then G r c else if c=bF.getD r 0 then V q c else 0) n%p:=IL λc hc=>by
    by_cases e2:c=free.getD q 0
    ·simp only[aw e2];rw[e2,v1 q hq,ns]
    ·simp only[aq e2];by_cases e3:c=bF.getD r 0
     ·simp only[aw e3];rw[e3,h.unit r e r hr,aw ae,ja]
     ·simp only[aq e3,dk];rcases h.cover c hc with⟨k',h1,h2⟩|⟨q',h1,h2⟩
      ·have Ti:r≠k':=λe4=>e3 (by rw[e4];exact h2.symm)
       rw[←h2,h.unit k' h1 r hr,aq Ti,kO,dk]
      ·have Ti:q≠q':=λe4=>e2 (by rw[e4];exact h2.symm)
       rw[←h2,v3 q q' hq h1 Ti,et,dk]
   rw[e1,aaG (a:=free.getD q 0) (b:=bF.getD r 0) (h.fb q hq) (h.pb r e) (λe=>aR e.symm) (λi _ h1 h2=>by rw[aq h1,aq h2])];rw[aw ae,aq aR,aw ae,v2 q hq r e,u5,k8,←u5,show G r (free.getD q 0)+((p:Int)-G r (free.getD q 0))=p by omega,Int.emod_self]
  ·unfold ib;rw[oe (λc hc=>by rw[h.zero r af hr c hc,kO]),dk]
 refine⟨λq hq=>(h.AK _).1 (b1 q hq),λw hw=>?_⟩
 have hw:=(h.AK w).2 hw
 have comb:∀t,t≤free.length→se p n G (λc=>sm (λq=>w (free.getD q 0)*V q c) t):=by
  intro t;induction t with
  |zero=>
   intro _ r hr
   unfold ib
   rw[oe (λc hc=>by show G r c*(0:Int)=0;exact et _),dk]
  |succ t ih=>
   intro ht r hr
   have e:ib n (G r) (λc=>sm (λq=>w (free.getD q 0)*V q c) (t+1))=ib n (G r) (λc=>sm (λq=>w (free.getD q 0)*V q c) t)+w (free.getD t 0)*ib n (G r) (V t):=by rw[←aaD];rfl
   rw[e,u5,ih af r hr,mY,b1 t af r hr,et,dk];rfl
 let d:Nat→Int:=λc=>w c+(-1)*sm (λq=>w (free.getD q 0)*V q c) free.length
 have hd:se p n G d:=by intro r hr;rw[aaD,u5,hw r hr,mY,comb free.length (bD _) r hr,et,dk];rfl
 have aaN:∀q,q<free.length→d (free.getD q 0)%(p:Int)=0:=by intro q hq;show(w (free.getD q 0)+(-1)*sm (λq'=>w (free.getD q' 0)*V q' (free.getD q 0)) free.length)%(p:Int)=0;rw[Fo (a:=q) hq (λi hi aR=>by rw[v3 i q hi hq aR,et]),v1 q hq,ns,show w (free.getD q 0)+(-1)*w (free.getD q 0)=0 by omega,dk]
 intro c hc
 have qY:d c%(p:Int)=0:=by
  rcases h.cover c hc with⟨k,h1,h2⟩|⟨q,h1,h2⟩
  ·rw[←h2,←row k h1 d aaN];exact hd k af
  ·rw[←h2];exact aaN q h1
 refine Bb.2 ?_
 have e:w c-sm (λq=>w (free.getD q 0)*V q c) free.length=d c:=by show _=w c+(-1)*_;omega
 rw[e];exact qY
end Go.El
namespace Go.El
open Go Go.Proofs
def alD(row:List Int)(j:Nat)(h:j<row.length):aG Tryz.prog 239 ([]++([cS aM row]++[.c (.E dZ (j:Int) 0)])) (cB (!(row.getD j 0==0))):=by refine aX Tryz.func239 ae ae ae ae ae ak ?_;refine rr ae (rr ae (hp:=aN) (aF (aL ar ae (au.of_eq ?_))));rw[bu];rfl
abbrev MR(j:Nat):AV:= .c (.M (Fi 239 [] [(false,[.E dZ (j:Int) 0])]))
set_option maxHeartbeats 4000000 in
def aaO(L:List (List Int))(j:Nat)(res:Int)(lL:L.length≤1000)(hl:∀i,i<L.length→j<(L.getD i []).length)(h:(∃q:Nat,q<L.length∧res=q∧(L.getD q []).getD j 0≠0∧∀i,i<q→(L.getD i []).getD j 0=0)∨(res= -1∧∀i,i<L.length→(L.getD i []).getD j 0=0)):
  aG Tryz.prog 238 [cS (.sl aM) L,MR j] (cI res):=by
 refine aX Tryz.func238 ae ae ae ae ae ak ?_
 refine rr ae (aj (rr ae (aH (bA (α:=Nat) (λi=>⟨[(0,cS (.sl aM) L),(1,MR j),(7,cI L.length),(8,cI i)],[],2,[]⟩) (λi=>i≤L.length∧∀k,k<i→(L.getD k []).getD j 0=0) (λi=>L.length-i) 0 ⟨bK _,λk hk=>by omega⟩ bY ?_))))
 rintro i ⟨hi,hz⟩
 refine rr ae (aj (ax ae (λh1=>?_) (λh1=>?_)))
 ·have h1:i<L.length:=by have h1:(i:Int)<(L.length:Int):=a9 h1;omega
  have hc:aG Tryz.prog 239 ([]++([cS aM (L.getD ((i:Int)).toNat [])]++[.c (.E dZ (j:Int) 0)])) (cB (!((L.getD i []).getD j 0==0))):=by rw[bu];exact alD _ j (hl i h1)
  refine aC (ai (aj (aH (rr ae (rb (CG ae ae (.inr ⟨_,_,ae,ae,ae⟩) ae hc (re ae (ax ae (λh2=>?_) (λh2=>?_)))))))))
  ·have h2:(L.getD i []).getD j 0≠0:=by simpa using h2
   refine rr ae (aF (fq (bS (gU (fq (bS (aL ar ae (au.of_eq ?_))))))));rcases h with⟨q,q1,q2,q3,q4⟩|⟨_,q4⟩
   ·have:i=q:=by
     rcases GB i q with e|e|e
     ·exact absurd (q4 i e) h2
     ·exact e
     ·exact absurd (hz q e) q3
    rw[q2,this]
   ·exact absurd (q4 i h1) h2
  ·have h2:(L.getD i []).getD j 0=0:=by simpa using h2
   refine aC (a6 (ai (rt ae (hp:=aN) (a8 (i+1) ⟨h1,λk hk=>?_⟩ (by show L.length-(i+1)<L.length-i;omega) bY))));by_cases e:k=i
   ·rw[e];exact h2
   ·exact hz k af
 ·have h1:i=L.length:=by have h1:¬(i:Int)<(L.length:Int):=bC h1;omega
  subst h1;refine bh (bt (bq (bp (ai (rr ae (aF (aL ar ae (au.of_eq ?_))))))));rcases h with⟨q,q1,q2,q3,q4⟩|⟨q,_⟩
  ·exact absurd (hz q q1) q3
  ·rw[q];rfl
def mG(F:Nat→List Int):Nat→Nat→Int:=λr c=>(F r).getD c 0
def o0(F:Nat→List Int)(k i:Nat):Nat→List Int:=λr=>if r=k then F i else if r=i then F k else F r
def fH(F:Nat→List Int)(k:Nat)(x:List Int):Nat→List Int:=λr=>if r=k then x else F r
def l8(p:Nat)(v:Int)(row:List Int)(t:Nat):List Int:=(List.range row.length).map λc=>if c<t then row.getD c 0*v%(p:Int)else row.getD c 0
def mb(p:Nat)(s:Int)(row rk:List Int)(t:Nat):List Int:=(List.range row.length).map λc=>if c<t then(row.getD c 0+((p:Int)-s)*rk.getD c 0)%(p:Int)else row.getD c 0
def ic(p:Nat)(F:Nat→List Int)(k j t:Nat):Nat→List Int:=λr=>if r<t∧r≠k∧(F r).getD j 0≠0 then mb p ((F r).getD j 0) (F r) (F k) (F r).length else F r
def uA(p:Nat)(v:Int)(row:List Int)(t:Nat):(l8 p v row t).length=row.length:=by simp[l8]
def xv(p:Nat)(s:Int)(row rk:List Int)(t:Nat):(mb p s row rk t).length=row.length:=by simp[mb]
def MS(f:Nat→Int){i r:Nat}(h:i<r):((List.range r).map f).getD i 0=f i:=by rw[aU,kc,oI h];rfl
def Fq(p:Nat)(v:Int)(row:List Int)(t:Nat){c:Nat}(h:c<row.length):(l8 p v row t).getD c 0=if c<t then row.getD c 0*v%(p:Int)else row.getD c 0:=MS _ h
def Fs(p:Nat)(s:Int)(row rk:List Int)(t:Nat){c:Nat}(h:c<row.length):(mb p s row rk t).getD c 0=if c<t then(row.getD c 0+((p:Int)-s)*rk.getD c 0)%(p:Int)else row.getD c 0:=MS _ h
def CJ{a b:List Int}(hl:a.length=b.length)(h:∀j,j<a.length→a.getD j 0=b.getD j 0):a=b:=by refine nV hl (λj h1 h2=>?_);have:=h j h1;rw[aU,aU,cr h1,cr h2]at this;exact this
def alE(p:Nat)(v:Int)(row:List Int):l8 p v row 0=row:=CJ (uA p v row 0) λc hc=>by rw[uA]at hc;rw[Fq p v row 0 hc,aq af]
def alF(p:Nat)(v:Int)(row:List Int)(t:Nat)(ht:t<row.length):(l8 p v row t).set t (row.getD t 0*v%(p:Int))=l8 p v row (t+1):=CJ (by rw[gO,uA,uA]) λc hc=>by
 rw[gO,uA]at hc;rw[mH _ _ _ _ (by rw[uA];exact ht),Fq p v row t hc,Fq p v row (t+1) hc];by_cases e:t=c
 ·subst e;rw[aw be,aw af]
 ·by_cases e2:c<t
  ·rw[aq af,aw e2,aw af]
  ·rw[aq af,aq e2,aq af]
def alG(p:Nat)(s:Int)(row rk:List Int):mb p s row rk 0=row:=CJ (xv p s row rk 0) λc hc=>by rw[xv]at hc;rw[Fs p s row rk 0 hc,aq af]
def alH(p:Nat)(s:Int)(row rk:List Int)(t:Nat)(ht:t<row.length):(mb p s row rk t).set t ((row.getD t 0+((p:Int)-s)*rk.getD t 0)%(p:Int))=mb p s row rk (t+1):=CJ (by rw[gO,xv,xv]) λc hc=>by
 rw[gO,xv]at hc;rw[mH _ _ _ _ (by rw[xv];exact ht),Fs p s row rk t hc,Fs p s row rk (t+1) hc];by_cases e:t=c
 ·subst e;rw[aw be,aw af]
 ·by_cases e2:c<t
  ·rw[aq af,aw e2,aw af]
  ·rw[aq af,aq e2,aq af]
def Tj{p:Nat}(hp:0<p)(v:Int){row:List Int}(h:rp p row)(t:Nat):rp p (l8 p v row t):=λc=>by
 by_cases hc:c<row.length
 ·rw[Fq p v row t hc];split
  ·exact⟨gZ _ af,iv _ af⟩
  ·exact h c
 ·rw[dH _ (by rw[uA];omega)];exact⟨jB _,by omega⟩
def alI{p:Nat}(hp:0<p)(s:Int){row:List Int}(rk:List Int)(h:rp p row)(t:Nat):rp p (mb p s row rk t):=λc=>by
 by_cases hc:c<row.length
 ·rw[Fs p s row rk t hc];split
  ·exact⟨gZ _ af,iv _ af⟩
  ·exact h c
 ·rw[dH _ (by rw[xv];omega)];exact⟨jB _,by omega⟩
def nM(p n:Nat)(F:Nat→List Int):Prop:=∀r,r<n→(F r).length=n∧rp p (F r)
def nM.sw{p n:Nat}{F:Nat→List Int}(h:nM p n F){k i:Nat}(hk:k<n)(hi:i<n):nM p n (o0 F k i):=λr hr=>by
 unfold o0;split
 ·exact h i hi
 ·split
  ·exact h k hk
  ·exact h r hr
def nM.up{p n:Nat}{F:Nat→List Int}(h:nM p n F){k:Nat}{x:List Int}(hx:x.length=n∧rp p x):nM p n (fH F k x):=λr hr=>by
 unfold fH;split
 ·exact hx
 ·exact h r hr
def nM.el{p n:Nat}(hp:0<p){F:Nat→List Int}(h:nM p n F)(k j t:Nat):nM p n (ic p F k j t):=λr hr=>by
 unfold ic;split
 ·exact⟨by rw[xv];exact(h r hr).1,alI hp _ _ (h r hr).2 _⟩
 ·exact h r hr
def KI.congr{p n:Nat}{G0 G G':Nat→Nat→Int}{j:Nat}{bF free:List Nat}(h:KI p n G0 G j bF free)(e:∀r,r<n→∀c,G r c=G' r c)(hpb:∀k,k<bF.length→k<n):KI p n G0 G' j bF free where
 bV:=λr hr c=>by rw[←e r hr c];exact h.bV r hr c
 AK:=λw=>by
  rw[←h.AK w];constructor
  ·intro hs r hr;have:=hs r hr;rwa[show G' r=G r from funext λc=>(e r hr c).symm]at this
  ·intro hs r hr;rw[show G' r=G r from funext λc=>(e r hr c).symm];exact hs r hr
 pl:=h.pl
 unit:=λk hk r hr=>by rw[←e r hr];exact h.unit k hk r hr
 zero:=λr h1 h2 c hc=>by rw[←e r h2];exact h.zero r h1 h2 c hc
 cover:=h.cover
 pb:=h.pb
 fb:=h.fb
 ne:=h.ne
 fd:=h.fd
def CK(F:Nat→List Int)(n j k i:Nat):Prop:=k≤i∧i<n∧(F i).getD j 0≠0∧∀q,k≤q→q<i→(F q).getD j 0=0
def aaP(F:Nat→List Int)(n j k:Nat):(∃i,CK F n j k i)∨∀i,k≤i→i<n→(F i).getD j 0=0:=by
 by_cases h:∃i,k≤i∧i<n∧(F i).getD j 0≠0
 ·left;obtain⟨i,h1,h2,h3⟩:=h;obtain⟨m,m1,⟨m2,m3⟩,m4⟩:=least (P:=λi=>k≤i∧(F i).getD j 0≠0) i ⟨h1,h3⟩;exact⟨m,m2,by omega,m3,λq q1 q2=>gE λhn=>m4 q q2 ⟨q1,hn⟩⟩
 ·right;exact λi h1 h2=>gE λhn=>h ⟨i,h1,h2,hn⟩
def Ft(p:Nat)(F:Nat→List Int)(n j k i:Nat):Nat→List Int:=
 ic p (fH (o0 F k i) k (l8 p (ia ((F i).getD j 0).toNat p:Nat) (F i) n)) k j n
open Classical in
noncomputable def Fu(p n j:Nat)(S:(Nat→List Int)×List Nat×List Nat):(Nat→List Int)×List Nat×List Nat:=
 if h:∃i,CK S.1 n j S.2.1.length i then(Ft p S.1 n j S.2.1.length (Classical.choose h),S.2.1++[j],S.2.2)else(S.1,S.2.1,S.2.2++[j])
noncomputable def gD(p n:Nat)(F:Nat→List Int):Nat→(Nat→List Int)×List Nat×List Nat
 |0=>(F,[],[])
 |j+1=>Fu p n j (gD p n F j)
def CK.uniq{F:Nat→List Int}{n j k i i':Nat}(h:CK F n j k i)(h':CK F n j k i'):i=i':=by
 rcases GB i i' with e|e|e
 ·exact absurd (h'.2.2.2 i h.1 e) h.2.2.1
 ·exact e
 ·exact absurd (h.2.2.2 i' h'.1 e) h'.2.2.1
def aaQ{p n j:Nat}{S:(Nat→List Int)×List Nat×List Nat}{i:Nat}(h:CK S.1 n j S.2.1.length i):Fu p n j S=(Ft p S.1 n j S.2.1.length i,S.2.1++[j],S.2.2):=by have hx:∃i,CK S.1 n j S.2.1.length i:=⟨i,h⟩;unfold Fu;rw[dif_pos hx,(xQ hx).uniq h]
def aaR{p n j:Nat}{S:(Nat→List Int)×List Nat×List Nat}(h:∀i,S.2.1.length≤i→i<n→(S.1 i).getD j 0=0):Fu p n j S=(S.1,S.2.1,S.2.2++[j]):=by unfold Fu;rw[dif_neg];rintro⟨i,h1,h2,h3,_⟩;exact h3 (h i h1 h2)
def alK{p n:Nat}(H:bI p){F:Nat→List Int}(h:nM p n F){k i j:Nat}(hk:k<n)(hi:i<n):∀r,r<n→∀c,pW p (kK p (kp (mG F) k i) k (ia ((F i).getD j 0).toNat p:Nat)) k j r c=mG (Ft p F n j k i) r c:=by
 unfold Ft;generalize ((ia ((F i).getD j 0).toNat p:Nat):Int)=v;intro r hr c;have e1:∀r c,kp (mG F) k i r c=mG (o0 F k i) r c:=λr c=>by
  unfold kp mG o0;split
  ·rfl
  ·split<;>rfl
 have hs:=h.sw hk hi;have e2:∀r,r<n→∀c,kK p (kp (mG F) k i) k v r c=mG (fH (o0 F k i) k (l8 p v (F i) n)) r c:=by
  intro r hr c;unfold kK;by_cases e:r=k
  ·rw[aw e,e1];unfold mG fH;rw[aw e];have e3:o0 F k i k=F i:=by unfold o0;rw[aw ae]
   rw[e3];by_cases hc:c<n
   ·rw[Fq p v (F i) n (by rw[(h i hi).1];exact hc),aw hc]
   ·rw[dH (F i) (by rw[(h i hi).1];omega),dH _ (by rw[uA,(h i hi).1];omega),kO,dk]
  ·rw[aq e,e1];unfold mG fH;rw[aq e]
 have hu:nM p n (fH (o0 F k i) k (l8 p v (F i) n)):=hs.up ⟨by rw[uA];exact(h i hi).1,Tj xN v (h i hi).2 n⟩;rw[show pW p (kK p (kp (mG F) k i) k v) k j r c=if r≠k∧kK p (kp (mG F) k i) k v r j≠0 then(kK p (kp (mG F) k i) k v r c+((p:Int)-kK p (kp (mG F) k i) k v r j)*kK p (kp (mG F) k i) k v k c)%(p:Int)else kK p (kp (mG F) k i) k v r c from ae];rw[e2 r hr,e2 r hr,e2 k hk];generalize fH (o0 F k i) k (l8 p v (F i) n)=B at*;unfold mG ic;by_cases pz:r≠k∧(B r).getD j 0≠0
 ·rw[aw pz,aw ⟨hr,pz⟩];by_cases hc:c<n
  ·rw[Fs p _ _ _ _ (by rw[(hu r hr).1];exact hc),aw (by rw[(hu r hr).1];exact hc)]
  ·rw[dH (B r) (i:=c) (by rw[(hu r hr).1];omega),dH (B k) (i:=c) (by rw[(hu k hk).1];omega),dH (mb _ _ _ _ _) (i:=c) (by rw[xv,(hu r hr).1];omega),et];simp
 ·rw[aq pz,aq (λhx=>pz hx.2)]
def Tk{p n:Nat}(H:bI p){F:Nat→List Int}(h:nM p n F):∀j,j≤n→nM p n (gD p n F j).1∧KI p n (mG F) (mG (gD p n F j).1) j (gD p n F j).2.1 (gD p n F j).2.2∧(gD p n F j).2.1.length≤j∧(gD p n F j).2.2.length≤j
 |0,_=>⟨h,KI.start λr hr c=>(h r hr).2 c,bD _,bD _⟩
 |j+1,hj=>by
  obtain⟨i1,i2,i3,i4⟩:=Tk H h j af;have hp:0<p:=xN;rw[gD];rcases aaP (gD p n F j).1 n j (gD p n F j).2.1.length with⟨i,hi⟩|hz
  ·rw[aaQ hi];obtain⟨a1,a2,a3,_⟩:=hi;have hrp:=(i1 i a2).2 j;have eS:(gD p n F j).2.1.length<n:=af;have hinv:=Ay H.hp H.le hrp.1 hrp.2 a3;rw[bu]at hinv;have hk:=i2.some H a1 a2 (v:=((ia (((gD p n F j).1 i).getD j 0).toNat p:Nat):Int)) hinv;refine⟨?_,hk.congr (alK H i1 eS a2) (λk hk=>?_),?_,?_⟩
   ·exact((i1.sw eS a2).up ⟨by rw[uA];exact(i1 i a2).1,Tj hp _ (i1 i a2).2 n⟩).el hp _ _ _
   ·simp only[kA,fv,mr]at hk;omega
   ·simp only[kA,fv,mr];omega
   ·show(gD p n F j).2.2.length≤j+1;omega
  ·rw[aaR hz];refine⟨i1,i2.none hz,by show(gD p n F j).2.1.length≤j+1;omega,?_⟩;simp only[kA,fv,mr];omega
def mN(p n:Nat)(F:Nat→List Int)(bF:List Nat)(f:Nat):Nat→List Int
 |0=>(List.replicate n 0).set f 1
 |t+1=>(mN p n F bF f t).set (bF.getD t 0) (((p:Int)-(F t).getD f 0)%(p:Int))
def IM(p n:Nat)(F:Nat→List Int)(bF:List Nat)(f:Nat):∀t,(mN p n F bF f t).length=n
 |0=>by simp[mN]
 |t+1=>by rw[mN,gO,IM p n F bF f t]
def aaT{p n:Nat}(H:bI p)(F:Nat→List Int)(bF:List Nat)(f:Nat):∀t,rp p (mN p n F bF f t)
 |0=>H9 (R2 H.pos n) f ak xN
 |t+1=>H9 (aaT H F bF f t) _ (gZ _ (by have:=H.pos;omega)) (iv _ H.pos)
def MU{p n:Nat}{F:Nat→List Int}{bF:List Nat}{f x:Nat}:∀t,(∀k,k<t→bF.getD k 0≠x)→(∀k,k<t→bF.getD k 0<n)→f<n→x<n→(mN p n F bF f t).getD x 0=if f=x then 1 else 0
 |0,_,_,hf,hx=>by
  rw[mN,mH _ _ _ _ (by simpa using hf)];by_cases e:f=x
  ·rw[aw (by first|exact e|exact oK e),aw e]
  ·rw[aq (by first|exact e| (intro h;exact e (a9 h))),aq e,aU,mU,aw hx];rfl
 |t+1,h,hb,hf,hx=>by have:=h t af;rw[mN,mH _ _ _ _ (by rw[IM];exact hb t af),aq (by first|exact this| (intro h;exact this (a9 h)))];exact MU t (λk hk=>h k af) (λk hk=>hb k af) hf hx
def aaU{p n:Nat}{F:Nat→List Int}{bF:List Nat}{f k:Nat}:∀t,k<t→(∀k,k<t→bF.getD k 0<n)→(∀k',k<k'→k'<t→bF.getD k' 0≠bF.getD k 0)→(mN p n F bF f t).getD (bF.getD k 0) 0=((p:Int)-(F k).getD f 0)%(p:Int)
 |0,h,_,_=>by omega
 |t+1,h,hb,hd=>by
  rw[mN,mH _ _ _ _ (by rw[IM];exact hb t af)];by_cases e:k=t
  ·subst e;rw[aw (by first|rfl|simp)]
  ·have:=hd t af af;rw[aq (by first|exact this| (intro h;exact this (a9 h)))];exact aaU t af (λk hk=>hb k af) (λk' h1 h2=>hd k' h1 af)
noncomputable def j6(p n:Nat)(F:Nat→List Int):List (List Int):=(gD p n F n).2.2.map λf=>mN p n (gD p n F n).1 (gD p n F n).2.1 f (gD p n F n).2.1.length
def aaV{p n:Nat}(H:bI p){F:Nat→List Int}(h:nM p n F):(j6 p n F).length≤n∧(∀v∈j6 p n F,v.length=n∧rp p v∧(∃i,v.getD i 0≠0)∧se p n (mG F) (λc=>v.getD c 0))∧
  ∀w,se p n (mG F) w→∃x:Nat→Int,∀c,c<n→w c%(p:Int)=sm (λq=>x q*((j6 p n F).getD q []).getD c 0) (j6 p n F).length%p:=by
 obtain⟨h1,h2,h3,h4⟩:=Tk H h n (bD _)
 unfold j6
 generalize gD p n F n=S at*
 obtain⟨B,bF,free⟩:=S
 simp only at h1 h2 h3 h4⊢
 have hpd:∀k k',k<bF.length→k'<bF.length→bF.getD k 0=bF.getD k' 0→k=k':=by
  intro k k' hk dx e;have e1:=h2.unit k hk k af;have e2:=h2.unit k' dx k af;rw[e,e2,aw ae]at e1;by_cases hx:k=k'
  ·exact hx
  ·rw[aq hx]at e1;omega
 let V:Nat→Nat→Int:=λq c=>(mN p n B bF (free.getD q 0) bF.length).getD c 0
 obtain⟨b1,b2⟩:=h2.basis H (V:=V) (λq hq=>by
   show(mN p n B bF (free.getD q 0) bF.length).getD (free.getD q 0) 0=1
   rw[MU _ (λk hk=>h2.ne k q hk hq) (λk hk=>h2.pb k hk) (h2.fb q hq) (h2.fb q hq),aw ae])
  (λq hq k hk=>aaU _ hk (λk hk=>h2.pb k hk) (λk' e1 e2 e3=>by have:=hpd k' k e2 hk e3;omega))
  (λq q' hq AL aR=>by show(mN p n B bF (free.getD q 0) bF.length).getD (free.getD q' 0) 0=0;rw[MU _ (λk hk=>h2.ne k q' hk AL) (λk hk=>h2.pb k hk) (h2.fb q hq) (h2.fb q' AL),aq (λe=>aR (h2.fd q q' hq AL e))])
 refine⟨by rw[dM];exact h4,λv hv=>?_,λw hw=>⟨λq=>w (free.getD q 0),λc hc=>?_⟩⟩
 ·obtain⟨f,hf,rfl⟩:=nW.1 hv;obtain⟨q,hq,e⟩:=WK hf;have e2:free.getD q 0=f:=by rw[aU,cr hq,DG,e]
  refine⟨IM _ _ _ _ _ _,aaT H _ _ _ _,⟨f,?_⟩,?_⟩
  ·rw[←e2,MU _ (λk hk=>h2.ne k q hk hq) (λk hk=>h2.pb k hk) (h2.fb q hq) (h2.fb q hq),aw ae];decide
  ·rw[←e2];exact b1 q hq
 ·rw[b2 w hw c hc,dM];congr 1;refine fZ λq hq=>?_
  congr 1;show(mN p n B bF (free.getD q 0) bF.length).getD c 0=_;congr 1;rw[aU,aU,kc,cr hq];rfl
end Go.El
namespace Go.El
open Go Go.RowKit
def mw(A B id:Nat):Nat:=cond (Nat.beq id A) B id
def qZ{A B id:Nat}(h:id≠A):mw A B id=id:=by
 unfold mw;cases e:Nat.beq id A with
 |true=>exact absurd (DC e) h
 |false=>rfl
def MV(A B:Nat):mw A B A=B:=by unfold mw;rw[PJ];rfl
def Fv{α:Type}{A B:Nat}{m:List (Nat×α)}(hB:ao B m=none):∀id b9,(ao id m).isSome=true→(ao b9 m).isSome=true→mw A B id=mw A B b9→id=b9:=by
 intro id b9 h h' e;by_cases h1:id=A<;>by_cases h2:b9=A
 ·rw[h1,h2]
 ·subst h1;rw[MV,qZ h2]at e;subst e;rw[hB]at h';cases h'
 ·subst h2;rw[MV,qZ h1]at e;subst e;rw[hB]at h;cases h
 ·rwa[qZ h1,qZ h2]at e
def Tl{α:Type}{t k:Nat}{l:List (Nat×α)}(h:t≠k):ao k (wR t l)=ao k l:=by rw[Hk,aq h]
def Tm{r:Nat}{E:TypeId}{T:ET}{f:Nat→List T.den}{id:Nat}(h:r<id):ao id (gA r E T f)=none:=by
 cases e:ao id (gA r E T f)with
 |none=>rfl
 |some b=>obtain⟨i,h1,h2,_⟩:=MB e;omega
def alM{o:Nat}{E0:TypeId}{r:Nat}{E:TypeId}{T:ET}{f:Nat→List T.den}{id:Nat}(h:r<id)(ho:o≠id):ao id (fg o E0 r E T f)=none:=by unfold fg;rw[bH ho];exact Tm h
def aaW{conc:List (Nat×aK)}{o:Nat}{E0:TypeId}{r:Nat}{E:TypeId}{T:ET}{f:Nat→List T.den}{id:Nat}(h:r<id)(ho:o≠id)(hc:ao id conc=none):ao id (conc++fg o E0 r E T f)=none:=by rw[yR,hc,alM h ho];rfl
def Fw{K:Nat}{conc:List (Nat×aK)}{o:Nat}{E0:TypeId}{r:Nat}{E:TypeId}{T:ET}{f:Nat→List T.den}(h:nC K conc=true)(ho:o<K)(hr:1+r≤K):eQ K (conc++fg o E0 r E T f):=eQ.of (SU h (S1 ho hr))
def Tn{α:Type}{f:α→α}:∀{l:List α},(∀x∈l,f x=x)→l.map f=l
 |[],_=>rfl
 |x::l,h=>by rw[jL,h x be,Tn λy hy=>h y oG]
def To(A B:Nat){sl:List (Nat×AV)}{mem:List (Nat×aK)}{nx:Nat}{gd:List (Nat×Bool)}{sl':List (Nat×AV)}{conc:List (Nat×aK)}{nx':Nat}{gd':List (Nat×Bool)}{o:Nat}{E0:TypeId}{r:Nat}{E:TypeId}{T:ET}{f:Nat→List T.den}(hs:CB (mw A B) sl sl')(hm:j4 (mw A B) mem conc)
  (Fk:ao o mem=some (.box E0 0 ((List.range r).map λi=> .X (1+i)))) (hf:∀i,i<r→ao (1+i) mem=some (.vec E T (f i))) (hr:r≤900) (hA:900<A) (hAo:o≠A) (hB:ao B conc=none) (hB9:900<B) (hBo:o≠B) (ho:o<1000000*nx') (hb:nC (1000000*nx') conc=true:=by rfl) (qW:sY (1000000*nx') sl'=true:=by rfl) (fe:Nat.ble 1 nx'=true:=by rfl):Wk ⟨sl,mem,nx,gd⟩ ⟨sl',conc++fg o E0 r E T f,nx',gd'⟩:=by
 have alP:=cY fe
 refine xt (mw A B) hs (j4.app hm ⟨⟨.box E0 0 ((List.range r).map λi=> .X (1+i)),?_,di.of_eq ?_⟩,j4.gA λi hi=>?_⟩) (qZ af) (Fv (aaW af hBo hB)) (show eQ (1000000*nx') _ from Fw hb ho af) qW fe
 ·rw[qZ hAo];exact Fk
 ·refine ay (aK.box E0 0) ?_;refine(Tn λc hc=>?_).symm;obtain⟨i,hi,rfl⟩:=nW.1 hc;have:=k7.1 hi;show C.X (mw A B (1+i))=_;rw[qZ af]
 ·rw[qZ af];exact hf i hi
def xw(k i id:Nat):Nat:=if id=1+k then 1+i else if id=1+i then 1+k else id
def alQ(k i:Nat){a b:Nat}(h:xw k i a=xw k i b):a=b:=by unfold xw at h;split at h<;>split at h<;>(try split at h)<;>(try split at h)<;>omega
def CL{k i id:Nat}(h1:id≠1+k)(h2:id≠1+i):xw k i id=id:=by unfold xw;rw[aq h1,aq h2]
def alR(k i:Nat){sl:List (Nat×AV)}{mem:List (Nat×aK)}{nx:Nat}{gd:List (Nat×Bool)}{sl':List (Nat×AV)}{conc:List (Nat×aK)}{nx':Nat}{gd':List (Nat×Bool)}{o:Nat}{E0:TypeId}{r:Nat}{E:TypeId}{T:ET}{f g:Nat→List T.den}(hk:k<r)(hi:i<r)(hs:CB (xw k i) sl sl')(hm:j4 (xw k i) mem conc)
  (Fk:ao o mem=some (.box E0 0 ((((List.range r).map λq=>C.X (1+q)).set k (.X (1+i))).set i (.X (1+k))))) (hf:∀q,q<r→ao (1+q) mem=some (.vec E T (f q))) (hg:∀q,q<r→g q=if q=k then f i else if q=i then f k else f q) (hr:r≤900) (ho9:900<o) (ho:o<1000000*nx') (hb:nC (1000000*nx') conc=true:=by rfl) (qW:sY (1000000*nx') sl'=true:=by rfl) (fe:Nat.ble 1 nx'=true:=by rfl):Wk ⟨sl,mem,nx,gd⟩ ⟨sl',conc++fg o E0 r E T g,nx',gd'⟩:=by
 have alP:=cY fe
 refine xt (xw k i) hs (j4.app hm ⟨⟨.box E0 0 ((((List.range r).map λq=>C.X (1+q)).set k (.X (1+i))).set i (.X (1+k))),?_,di.of_eq ?_⟩,j4.gA λq hq=>?_⟩) (CL af af) (λ_ _ _ _ h=>alQ k i h) (show eQ (1000000*nx') _ from Fw hb ho af) qW fe
 ·rw[CL af af];exact Fk
 ·refine ay (aK.box E0 0) (nV be λq h1 h2=>?_);simp only[dM,Bk]at h2;simp only[List.getElem_set,sH,Bj,oj];unfold xw;by_cases e1:q=i
  ·subst e1;by_cases e2:q=k
   ·subst e2;simp
   ·rw[aw ae,aq af,aw ae]
  ·by_cases e2:q=k
   ·subst e2;rw[aq af,aw ae,aw ae]
   ·rw[aq af,aq af,aq af,aq af]
 ·rw[hg q hq];unfold xw;by_cases e1:q=k
  ·subst e1;rw[aw ae,aw ae];exact hf i hi
  ·rw[aq af,aq e1];by_cases e2:q=i
   ·subst e2;rw[aw ae,aw ae];exact hf k hk
   ·rw[aq af,aq e2];exact hf q hq
def o8(r i:Nat):List C:=(List.range i).map (λj=>C.X (1+j))++List.replicate (r-i) (.V (.slice none 0 0))
def alS(r i:Nat)(h:i≤r):(o8 r i).length=r:=by unfold o8;simp;omega
def alT(r:Nat):o8 r r=(List.range r).map λj=>C.X (1+j):=by unfold o8;rw[iw,wD,kB]
def alU(r:Nat):o8 r 0=List.replicate r (.V (.slice none 0 0)):=by unfold o8;simp
def alV(r i:Nat)(h:i<r):(o8 r i).set i (.X (1+i))=o8 r (i+1):=by unfold o8;rw[qi _ _ be,show r-i=(r-(i+1))+1 by omega,wC,qk,eh];simp
def aaX{α β:Type}(f:α→β)(c:α):∀(l:List α)(i:Nat),(l.set i c).map f=(l.map f).set i (f c)
 |[],_=>rfl
 |_::_,0=>rfl
 |x::l,i+1=>by rw[Ky,jL,jL,Ky,aaX f c l i]
def aaY{r i A B:Nat}(h:i<A):(o8 r i).map (oj (mw A B))=o8 r i:=Tn λc hc=>by
 rcases b6.1 hc with h1|h1
 ·obtain⟨j,hj,rfl⟩:=nW.1 h1;have:=k7.1 hj;show C.X (mw A B (1+j))=_;rw[qZ af]
 ·rw[Kr h1];rfl
def aaZ{r i K:Nat}(h:1+i≤K):∀j∈cD (o8 r i),j<K:=SR λc hc id al=>by
 rcases b6.1 hc with h1|h1
 ·obtain⟨j,hj,rfl⟩:=nW.1 h1;have:=k7.1 hj;simp only[C.aD,jJ]at al;omega
 ·rw[Kr h1]at al;cases al
end Go.El
namespace Go.El
open Go Go.Proofs
def zl(l:List Nat):List Int:=l.map (λ(x:Nat)=>((x:Nat):Int))
def MW(l:List Nat):(zl l).length=l.length:=dM _
def aa0(l:List Nat)(x:Nat):zl l++[(x:Int)]=zl (l++[x]):=by simp[zl]
def aa1(l:List Nat)(i:Nat):(zl l).getD i 0=(l.getD i 0:Nat):=by unfold zl;rw[aU,kc,aU];cases l[i]? <;>rfl
def tx{r j:Nat}(h:j<r):((List.range r).map λi=>C.X (1+i))[0+((j:Int)).toNat*1]? =some (.X (1+j)):=by rw[bu,eZ,k9,kc,oI h];rfl
def alW(p:Nat)(F:Nat→List Int)(k j t:Nat):ic p F k j t t=F t:=by unfold ic;rw[aq (λh=>by omega)]
def alX(p:Nat)(F:Nat→List Int)(k j t:Nat):ic p F k j t k=F k:=by unfold ic;rw[aq (λh=>h.2.1 ae)]
def alY(p:Nat)(F:Nat→List Int)(k j:Nat):ic p F k j 0=F:=funext λr=>by unfold ic;rw[aq (λh=>by omega)]
def aa2(p:Nat)(F:Nat→List Int){k j t:Nat}(h:¬(t≠k∧(F t).getD j 0≠0)):ic p F k j (t+1)=ic p F k j t:=funext λr=>by
 unfold ic;by_cases e:r=t
 ·subst e;rw[aq (λh2=>h h2.2),aq (λh2=>h h2.2)]
 ·by_cases h2:r<t∧r≠k∧(F r).getD j 0≠0
  ·rw[aw h2,aw ⟨by omega,h2.2⟩]
  ·rw[aq h2,aq (λh3=>h2 ⟨by omega,h3.2⟩)]
def alZ(p:Nat)(F:Nat→List Int){k j t:Nat}(h:t≠k∧(F t).getD j 0≠0):fH (ic p F k j t) t (mb p ((F t).getD j 0) (F t) (F k) (F t).length)=ic p F k j (t+1):=funext λr=>by
 unfold fH ic;by_cases e:r=t
 ·subst e;rw[aw ae,aw ⟨by omega,h⟩]
 ·rw[aq e];by_cases h2:r<t∧r≠k∧(F r).getD j 0≠0
  ·rw[aw h2,aw ⟨by omega,h2.2⟩]
  ·rw[aq h2,aq (λh3=>h2 ⟨by omega,h3.2⟩)]
def AM(F:Nat→List Int)(k:Nat)(x:List Int):fH F k x k=x:=by unfold fH;rw[aw ae]
def CM(F:Nat→List Int){k q:Nat}(x:List Int)(h:q≠k):fH F k x q=F q:=by unfold fH;rw[aq h]
def aa3(F:Nat→List Int)(k:Nat):fH F k (F k)=F:=funext λq=>by
 unfold fH;split
 ·rename_i e;rw[e]
 ·rfl
set_option maxRecDepth 100000 in
set_option maxHeartbeats 8000000 in
def al0{p n:Nat}(H:bI p){F:Nat→List Int}(hF:nM p n F)(D0:1≤n)(hn:n≤200):Fj Tryz.prog 183 [.c (.L 1000 0 n (some n)),cU p] (fg 1000 22 n 25 aM F) (cS (.sl aM) (j6 p n F)):=by
 have iN:=H.hp.1;have Eh:=H.le;have vE:(p:Int)≠0:=af;refine aau 1 Tryz.func183 ae ae ae (λid al=>by simp[fN,AV.aD,C.aD]at al;omega) (eQ.of (S1 af af)) ae ak ?_;refine rr ae (rb (iV ae ae ah (re ae (rr ae (aj (rr ae ?_))))));refine aH (bA (α:=Nat) (λj=>⟨[(0,.c (.L 1000 0 n (some n))),(1,cU p),(5,cI n),(6,.c (.X 5000000)),(7,.c (.X 6000000)),(25,cI n),(26,cI j)],[(5000000,.vec 3 dZ (zl (gD p n F j).2.1)),(6000000,.vec 3 dZ (zl (gD p n F j).2.2))]++fg 1000 22 n 25 aM (gD p n F j).1,7,[]⟩) (λj=>j≤n) (λj=>n-j) 0 (bK _) ?_ ?_)
 ·refine Wk.trans (tv 5000000 3 dZ (sl':=[(0,.c (.L 1000 0 n (some n))),(1,cU p),(5,cI n),(6,.c (.X 5000000)),(7,.c (.V (.slice none 0 0))),(25,cI n),(26,cI 0)]) (m2:=fg 1000 22 n 25 aM F) (nx':=6) (gd':=[]) ⟨.inl (sR ae),.inl (sR ae),.inl (sR ae),.inr ⟨ae,ae⟩,.inl (sR ae),.inl (sR ae),.inl (sR ae),ah⟩ ⟨bR ae,iQ.gA λq hq=>cC⟩ ae (Fw (conc:=[(5000000,.vec 3 dZ [])]) ae af af)) ?_;refine Wk.trans (tv 6000000 3 dZ (sl':=[(0,.c (.L 1000 0 n (some n))),(1,cU p),(5,cI n),(6,.c (.X 5000000)),(7,.c (.X 6000000)),(25,cI n),(26,cI 0)]) (m2:=(5000000,.vec 3 dZ [])::fg 1000 22 n 25 aM F) (nx':=7) (gd':=[]) ⟨.inl (sR ae),.inl (sR ae),.inl (sR ae),.inl (sR ae),.inr ⟨ae,ae⟩,.inl (sR ae),.inl (sR ae),ah⟩ ⟨bR ae,bR ae,iQ.gA λq hq=>cC⟩ ae (Fw (conc:=[(6000000,.vec 3 dZ []),(5000000,.vec 3 dZ [])]) ae af af)) ?_;exact iD ⟨sR ae,sR ae,sR ae,sR ae,sR ae,sR ae,sR ae,ah⟩ ⟨bE ae ae,bE ae ae,ah⟩ ae (λq hq=>cC) af
 intro j hj;obtain⟨i1,i2,i3,i4⟩:=Tk H hF j hj;refine rr ae (aj (ax ae (λh=>?_) (λh=>?_)))
 ·have AN:j<n:=by have h:(j:Int)<(n:Int):=a9 h;omega
  have hS:gD p n F (j+1)=Fu p n j (gD p n F j):=rfl;generalize Fy:gD p n F j=S at*;obtain⟨B,bF,free⟩:=S;simp only at i1 i2 i3 i4⊢;have Tp:=MW bF;have hzf:=MW free;refine aC (ai (aj (aH (rr ae (rr ae ?_)))));refine dy (alf 8001000 (T:=dZ) (x:=(j:Int)) (sl':=[(0,.c (.L 1000 0 n (some n))),(1,cU p),(5,cI n),(6,.c (.X 5000000)),(7,.c (.X 6000000)),(25,cI n),(26,cI j),(8,.c (.E dZ (j:Int) 0)),(9,cI bF.length)]) (mem':=[(5000000,.vec 3 dZ (zl bF)),(6000000,.vec 3 dZ (zl free))]++fg 1000 22 n 25 aM B) (nx':=10) (gd':=[]) ae ⟨.inl (sR ae),.inl (sR ae),.inl (sR ae),.inl (sR ae),.inl (sR ae),.inl (sR ae),.inl (sR ae),.inr ⟨0,ae,ae⟩,.inl ⟨_,ae,au.of_eq (ay (λz:Nat=>cI (z:Int)) Tp)⟩,ah⟩ (iQ.app ⟨bR ae,bR ae,ah⟩ ⟨bR ae,iQ.gA λq hq=>cC⟩) (aaW af af ae) (Fw ae af af)) ?_;have qy:=i2.pl;obtain⟨L,hL⟩:∃L,L=(List.range (n-((bF.length:Nat):Int).toNat)).map λi=>B ((if n=((bF.length:Nat):Int).toNat then 0 else 0+((bF.length:Nat):Int).toNat*1)+i):=⟨_,ae⟩
  have Zd:L.length=n-bF.length:=by rw[hL,bu];simp
  have uq:∀i,i<n-bF.length→L.getD i []=B (bF.length+i):=λi hi=>by rw[hL,bu,aU,kc,oI hi,aq af,eZ,k9];rfl
  have xx:(if n=((bF.length:Nat):Int).toNat then 0 else 0+((bF.length:Nat):Int).toNat*1)+(n-((bF.length:Nat):Int).toNat)≤n:=by rw[bu];split<;>omega
  rcases aaP B n j bF.length with⟨i,hi⟩|hz
  ·have MY:gD p n F (j+1)=(Ft p B n j bF.length i,bF++[j],free):=hS.trans (aaQ hi);obtain⟨a1,a2,a3,a4⟩:=hi;have IN:aG Tryz.prog 238 [cS (.sl aM) L,MR j] (.c (.I .i64 ((i-bF.length:Nat):Int))):=aaO L j _ af (λi hi=>by rw[uq i af,(i1 _ af).1];exact AN) (.inl ⟨i-bF.length,by omega,ae,by rw[uq _ af,show bF.length+(i-bF.length)=i by omega];exact a3,λq hq=>by rw[uq q af];exact a4 _ af af⟩);rw[hL]at IN;generalize hk:bF.length=k at*;have eS:k<n:=af;refine rb (iV ae ae ?_ (ML ae ae ae (rct (z:= .I .i64 ((i-k:Nat):Int)) ae ae ae (λq hq=>cC) af xx (bD _) IN (λ_ _ _ h=>h) (re ae ?_))))
   ·simp only[Pr.an,Pr.h,true_and,and_true];omega
   refine aj (rr ae (ax ae (λh1=>?_) (λh1=>aC (ai ?_))))
   ·exfalso;have h1:(k:Int)+((i-k:Nat):Int)<(k:Int):=a9 h1;omega
   refine dy (iD (sl':=[(0,.c (.L 1000 0 n (some n))),(1,cU p),(5,cI n),(6,.c (.X 5000000)),(7,.c (.X 6000000)),(25,cI n),(26,cI j),(8,.c (.E dZ (j:Int) 0)),(9,cI k),(10,cI i)]) (conc:=[(5000000,.vec 3 dZ (zl bF)),(6000000,.vec 3 dZ (zl free))]) (nx':=12) (gd':=[]) (o:=1000) (E0:=22) (r:=n) (E:=25) (T:=aM) (f:=B) ⟨sR ae,sR ae,sR ae,sR ae,sR ae,sR ae,sR ae,sR ae,sR ae,sE ae ?_,ah⟩ ⟨bR ae,bR ae,ah⟩ ae (λq hq=>cC) af) ?_
   ·exact ay cI (show(k:Int)+((i-k:Nat):Int)=(i:Int)by omega)
   have qq:(0:Int)≤(k:Int)∧(k:Int)<(n:Int):=⟨by omega,by omega⟩;have uB:(0:Int)≤(i:Int)∧(i:Int)<(n:Int):=⟨by omega,by omega⟩;refine rb (iV ae ae uB (mL ar (c:= .X (1+i)) ae ae (tx a2) ae (iV ae ae qq (mL ar (c:= .X (1+k)) ae ae (tx eS) ae (iV ae ae qq (Fg ar ae ae ae cC ae ?_ (iV ae ae ?_ (Fg ar ae ae ae cC ae ?_ (re ae ?_ (ho:=qX fR))))))))))
   ·show 0+((k:Int)).toNat*1<_;simp;omega
   ·exact uB
   ·show 0+((i:Int)).toNat*1<_;simp;omega
   refine dy (alR k i (sl':=[(0,.c (.L 1000 0 n (some n))),(1,cU p),(5,cI n),(6,.c (.X 5000000)),(7,.c (.X 6000000)),(25,cI n),(26,cI j),(8,.c (.E dZ (j:Int) 0)),(9,cI k)]) (conc:=[(5000000,.vec 3 dZ (zl bF)),(6000000,.vec 3 dZ (zl free))]) (nx':=13) (gd':=[]) (o:=1000) (E0:=22) (r:=n) (E:=25) (T:=aM) (f:=B) (g:=o0 B k i) eS a2 ?_ ?_ ?_ (λq hq=>cC) (λq hq=>rfl) af af af) ?_
   ·refine⟨sE ae ?_,sR ae,sR ae,sE ae ?_,sE ae ?_,sR ae,sR ae,sR ae,sR ae,ah⟩
    ·exact ay (λz=>AV.c (.L z 0 n (some n))) (CL af af).symm
    ·exact ay (λz=>AV.c (.X z)) (CL af af).symm
    ·exact ay (λz=>AV.c (.X z)) (CL af af).symm
   ·refine⟨⟨_,by rw[CL af af];rfl,di.refl _⟩,⟨_,by rw[CL af af];rfl,di.refl _⟩,ah⟩
   ·refine ay (λz=>some (aK.box 22 0 z)) ?_;rw[bu,bu,eZ,k9,eZ,k9]
   have hG:=i1.sw eS a2;have hGk:o0 B k i k=B i:=by unfold o0;rw[aw ae]
   have Cb:=(i1 i a2).2 j;have hinv:aG Tryz.prog 124 [cU ((o0 B k i k).getD ((j:Int)).toNat 0),cU p] (.t [(false,[.I .u64 (ia ((B i).getD j 0).toNat p:Nat)]),(false,[.I .i64 0])]):=by rw[bu,hGk];have:=L5 ((B i).getD j 0) p Cb a3 af af;rwa[bu]at this
   have hv:=R0 ((B i).getD j 0).toNat (p-2) p af;have al1:Ft p B n j k i=ic p (fH (o0 B k i) k (l8 p (ia ((B i).getD j 0).toNat p:Nat) (o0 B k i k) n)) k j n:=by rw[hGk];rfl
   have hv:(0:Int)≤((ia ((B i).getD j 0).toNat p:Nat):Int)∧((ia ((B i).getD j 0).toNat p:Nat):Int)<p:=by unfold ia;omega
   rw[al1]at MY;generalize ((ia ((B i).getD j 0).toNat p:Nat):Int)=v at*;generalize o0 B k i=G at*;have yT:=λq(hq:q<n)=>(hG q hq).1
   have hGr:=λq(hq:q<n)=>(hG q hq).2
   refine rb (iV ae ae qq (mL ar (c:= .X (1+k)) ae ae (tx eS) ae (rk 1 ae ae (qV ar (T:=aM) (xs:=G k) ae cC ae ae af (by rw[yT k eS];omega) (yQ ar ae cC ae ae ae (by show((j:Int)).toNat<_;rw[yT k eS];omega) (rc ae ae hinv (re ae ?_ (ho:=qX fR))))))));refine aj (rr ae (aH (bA (α:=Nat) (λc=>⟨[(0,.c (.L 1000 0 n (some n))),(1,cU p),(5,cI n),(6,.c (.X 5000000)),(7,.c (.X 6000000)),(25,cI n),(26,cI j),(8,.c (.E dZ (j:Int) 0)),(9,cI k),(11,cU v),(71,cI n),(72,cI c)],[(5000000,.vec 3 dZ (zl bF)),(6000000,.vec 3 dZ (zl free))]++fg 1000 22 n 25 aM (fH G k (l8 p v (G k) c)),15,[]⟩) (λc=>c≤n) (λc=>n-c) 0 (bK _) ?_ ?_)))
   ·refine iD ⟨sR ae,sR ae,sR ae,sR ae,sR ae,sR ae,sR ae,sR ae,sR ae,sR ae,sR ae,sR ae,ah⟩ ⟨bR ae,bR ae,ah⟩ ae (λq hq=>?_) af;rw[alE,aa3];exact cC
   intro c hc;have hsr:=Tj (show 0<p by omega) v (hGr k eS) c;have MZ:=uA p v (G k) c;have IP:fH G k (l8 p v (G k) c) k=l8 p v (G k) c:=AM _ _ _;refine rr ae (aj (ax ae (λh2=>?_) (λh2=>?_)))
   ·have th:c<n:=by have h2:(c:Int)<(n:Int):=a9 h2;omega
    refine aC (ai (aj (aH (rr ae ?_))));refine cK (iV ae ae qq (mL ar (c:= .X (1+k)) ae ae (tx eS) ae (iV ae ae qq (mL ar (c:= .X (1+k)) ae ae (tx eS) ae (rk 1 ae ae (qV ar (T:=aM) (xs:=fH G k (l8 p v (G k) c) k) ae cC ae ae af (by rw[IP,MZ,yT k eS];omega) (yQ ar ae cC ae ae ae (by show((c:Int)).toNat<_;rw[IP,MZ,yT k eS];omega) (rk 4 ae ae ?_ (hp:=aN)))))))));refine qV ar (T:=aM) (xs:=fH G k (l8 p v (G k) c) k) ae cC ae ae af (by rw[IP,MZ,yT k eS];omega) ?_;refine BT ar (T:=aM) (id:=1+k) (xs:=fH G k (l8 p v (G k) c) k) ae cC ae ae ae ((G k).getD c 0*v%(p:Int)) ?_ (by show((c:Int)).toNat<_;rw[IP,MZ,yT k eS];omega) ?_
    ·have hx:(fH G k (l8 p v (G k) c) k).getD ((c:Int)).toNat 0=(G k).getD c 0:=by rw[bu,IP,Fq p v (G k) c (by rw[yT k eS];exact th),aq af]
     show some [C.I .u64 ((IntKind.wrap .u64 ((fH G k (l8 p v (G k) c) k).getD ((c:Int)).toNat 0*v)).tmod (p:Int))]=_;rw[hx,R8 _ _ _ (hGr k eS c) hv af];rfl
    refine re ae ?_ (ho:=qX fR);refine a6 (ai (rt ae (hp:=aN) (a8 (c+1) th (by show n-(c+1)<n-c;omega) (iD ⟨sR ae,sR ae,sR ae,sR ae,sR ae,sR ae,sR ae,sR ae,sR ae,sR ae,sR ae,sR ae,ah⟩ ⟨⟨_,(bH af).trans ae,di.refl _⟩,⟨_,(bH af).trans ae,di.refl _⟩,ah⟩ ((bH af).trans ae) (λq hq=>?_) af))));by_cases e:q=k
    ·subst e;refine CF.trans (ay (λz=>some (aK.vec 25 aM z)) ?_);rw[bu,AM,AM,alF p v (G q) c (by rw[yT q eS];exact th)]
    ·refine(bH af).trans (Eq.trans (cC) (ay (λz=>some (aK.vec 25 aM z)) ?_));rw[CM _ _ e,CM _ _ e]
   ·have th:n=c:=by have h2:¬(c:Int)<(n:Int):=bC h2;omega
    subst th;refine bh (bt (bq (bp (ai ?_))));have hU:nM p n (fH G k (l8 p v (G k) n)):=hG.up ⟨by rw[uA,yT k eS],hsr⟩;generalize fH G k (l8 p v (G k) n)=U at*;have M2:=λq(hq:q<n)=>(hU q hq).1
    have Tq:=λq(hq:q<n)=>(hU q hq).2
    refine aj (rr ae (aH (bA (α:=Nat) (λr=>⟨[(0,.c (.L 1000 0 n (some n))),(1,cU p),(5,cI n),(6,.c (.X 5000000)),(7,.c (.X 6000000)),(25,cI n),(26,cI j),(8,.c (.E dZ (j:Int) 0)),(9,cI k),(93,cI n),(94,cI r)],[(5000000,.vec 3 dZ (zl bF)),(6000000,.vec 3 dZ (zl free))]++fg 1000 22 n 25 aM (ic p U k j r),17,[]⟩) (λr=>r≤n) (λr=>n-r) 0 (bK _) ?_ ?_)))
    ·refine iD ⟨sR ae,sR ae,sR ae,sR ae,sR ae,sR ae,sR ae,sR ae,sR ae,sR ae,sR ae,ah⟩ ⟨bR ae,bR ae,ah⟩ ae (λq hq=>?_) af;rw[alY];exact cC
    intro r hr;refine rr ae (aj (ax ae (λh3=>?_) (λh3=>?_)))
    ·have om:r<n:=by have h3:(r:Int)<(n:Int):=a9 h3;omega
     have Tr:(0:Int)≤(r:Int)∧(r:Int)<(n:Int):=⟨by omega,by omega⟩;have M3:=alW p U k j r;have hAk:=alX p U k j r;have Ag:=Tq r om j;refine aC (ai (aj (aH (rr ae ?_))));refine rb (iV ae ae Tr (mL ar (c:= .X (1+r)) ae ae (tx om) ae (rk 1 ae ae (qV ar (T:=aM) (xs:=ic p U k j r r) ae cC ae ae af (by rw[M3,M2 r om];omega) (yQ ar ae cC ae ae ae (by show((j:Int)).toNat<_;rw[M3,M2 r om];omega) (re ae ?_ (ho:=qX fR)))))));rw[show(ic p U k j r r).getD ((j:Int)).toNat 0=(U r).getD j 0 by rw[bu,M3]];generalize B8:(U r).getD j 0=s at*;have back:∀(st:St),Wk st ⟨[(0,.c (.L 1000 0 n (some n))),(1,cU p),(5,cI n),(6,.c (.X 5000000)),(7,.c (.X 6000000)),(25,cI n),(26,cI j),(8,.c (.E dZ (j:Int) 0)),(9,cI k),(93,cI n),(94,cI ((r+1:Nat):Int))],[(5000000,.vec 3 dZ (zl bF)),(6000000,.vec 3 dZ (zl free))]++fg 1000 22 n 25 aM (ic p U k j (r+1)),17,[]⟩→Wk st ⟨[(0,.c (.L 1000 0 n (some n))),(1,cU p),(5,cI n),(6,.c (.X 5000000)),(7,.c (.X 6000000)),(25,cI n),(26,cI j),(8,.c (.E dZ (j:Int) 0)),(9,cI k),(93,cI n),(94,cI ((r+1:Nat):Int))],[(5000000,.vec 3 dZ (zl bF)),(6000000,.vec 3 dZ (zl free))]++fg 1000 22 n 25 aM (ic p U k j (r+1)),17,[]⟩:=λ_ h=>h
     refine rb (rg 107 ae ae (λh4=>?_) (λh4=>?_))
     ·have h4:r≠k:=λe=>by subst e;simp at h4
      refine re ae (ax ae (λh5=>?_) (λh5=>?_))
      ·have h5:s≠0:=λe=>by subst e;simp at h5
       have e1:IntKind.wrap .u64 ((p:Int)-s)=(p:Int)-s:=wrap_u64 _ af af;refine rr ae (aH (bA (α:=Nat) (λc=>⟨[(0,.c (.L 1000 0 n (some n))),(1,cU p),(5,cI n),(6,.c (.X 5000000)),(7,.c (.X 6000000)),(25,cI n),(26,cI j),(8,.c (.E dZ (j:Int) 0)),(9,cI k),(93,cI n),(94,cI r),(14,cI r),(15,cU s),(111,cI n),(112,cI c)],[(5000000,.vec 3 dZ (zl bF)),(6000000,.vec 3 dZ (zl free))]++fg 1000 22 n 25 aM (fH (ic p U k j r) r (mb p s (U r) (U k) c)),22,[]⟩) (λc=>c≤n) (λc=>n-c) 0 (bK _) ?_ ?_))
       ·refine iD ⟨sR ae,sR ae,sR ae,sR ae,sR ae,sR ae,sR ae,sR ae,sR ae,sR ae,sR ae,sR ae,sR ae,sR ae,sR ae,ah⟩ ⟨bR ae,bR ae,ah⟩ ae (λq hq=>?_) af;rw[alG,show fH (ic p U k j r) r (U r)=ic p U k j r from by rw[←M3];exact aa3 _ _];exact cC
       intro c hc;have IQ:fH (ic p U k j r) r (mb p s (U r) (U k) c) r=mb p s (U r) (U k) c:=AM _ _ _;have Ts:fH (ic p U k j r) r (mb p s (U r) (U k) c) k=U k:=by rw[CM _ _ (λe=>h4 e.symm),hAk]
       have M4:=xv p s (U r) (U k) c;have kF:=M2 r om;have MK:=M2 k eS;refine rr ae (aj (ax ae (λh6=>?_) (λh6=>?_)))
       ·have th:c<n:=by have h6:(c:Int)<(n:Int):=a9 h6;omega
        refine aC (ai (aj (aH (rr ae ?_))));refine cK (iV ae ae Tr (mL ar (c:= .X (1+r)) ae ae (tx om) ae (iV ae ae Tr (mL ar (c:= .X (1+r)) ae ae (tx om) ae (rk 1 ae ae (qV ar (T:=aM) (xs:=fH (ic p U k j r) r (mb p s (U r) (U k) c) r) ae cC ae ae af (by rw[IQ,M4];omega) (yQ ar ae cC ae ae ae (by show((c:Int)).toNat<_;rw[IQ,M4];omega) ?_)))))));refine iV ae ae qq (mL ar (c:= .X (1+k)) ae ae (tx eS) ae (rk 1 ae ae (qV ar (T:=aM) (xs:=fH (ic p U k j r) r (mb p s (U r) (U k) c) k) ae cC ae ae af (by rw[Ts];omega) (yQ ar ae cC ae ae ae (by show((c:Int)).toNat<_;rw[Ts];omega) (rk 4 ae ae ?_ (hp:=aN))))));refine qV ar (T:=aM) (xs:=fH (ic p U k j r) r (mb p s (U r) (U k) c) r) ae cC ae ae af (by rw[IQ,M4];omega) ?_;refine BT ar (T:=aM) (id:=1+r) (xs:=fH (ic p U k j r) r (mb p s (U r) (U k) c) r) ae cC ae ae ae (((U r).getD c 0+((p:Int)-s)*(U k).getD c 0)%(p:Int)) ?_ (by show((c:Int)).toNat<_;rw[IQ,M4];omega) ?_
        ·have hx:(fH (ic p U k j r) r (mb p s (U r) (U k) c) r).getD ((c:Int)).toNat 0=(U r).getD c 0:=by rw[bu,IQ,Fs p s (U r) (U k) c af,aq af]
         have hy:(fH (ic p U k j r) r (mb p s (U r) (U k) c) k).getD ((c:Int)).toNat 0=(U k).getD c 0:=by rw[bu,Ts]
         show some [C.I .u64 ((IntKind.wrap .u64 ((fH (ic p U k j r) r (mb p s (U r) (U k) c) r).getD ((c:Int)).toNat 0+IntKind.wrap .u64 (IntKind.wrap .u64 ((p:Int)-s)*(fH (ic p U k j r) r (mb p s (U r) (U k) c) k).getD ((c:Int)).toNat 0))).tmod (p:Int))]=_;rw[hx,hy,e1,Zv _ _ _ _ (Tq r om c) af (Tq k eS c) af];rfl
        refine re ae ?_ (ho:=qX fR);refine a6 (ai (rt ae (hp:=aN) (a8 (c+1) th (by show n-(c+1)<n-c;omega) (iD ⟨sR ae,sR ae,sR ae,sR ae,sR ae,sR ae,sR ae,sR ae,sR ae,sR ae,sR ae,sR ae,sR ae,sR ae,sR ae,ah⟩ ⟨⟨_,(bH af).trans ae,di.refl _⟩,⟨_,(bH af).trans ae,di.refl _⟩,ah⟩ ((bH af).trans ae) (λq hq=>?_) af))));by_cases e:q=r
        ·subst e;refine CF.trans (ay (λz=>some (aK.vec 25 aM z)) ?_);rw[bu,AM,AM,alH p s (U q) (U k) c af]
        ·refine(bH af).trans (Eq.trans (cC) (ay (λz=>some (aK.vec 25 aM z)) ?_));rw[CM _ _ e,CM _ _ e]
       ·have th:c=n:=by have h6:¬(c:Int)<(n:Int):=bC h6;omega
        subst th;refine bh (bt (bq (bp (a6 (ai (rt ae (hp:=aN) (a8 (r+1) om (by show c-(r+1)<c-r;omega) ?_)))))));have es:=alZ p U (t:=r) (k:=k) (j:=j) ⟨h4,by rw[B8];exact h5⟩;rw[B8,kF]at es;refine back _ (iD ⟨sR ae,sR ae,sR ae,sR ae,sR ae,sR ae,sR ae,sR ae,sR ae,sR ae,sR ae,ah⟩ ⟨bR ae,bR ae,ah⟩ ae (λq hq=>?_) af);rw[←es];exact cC
      ·have h5:s=0:=by simpa using h5
       refine aC (a6 (ai (rt ae (hp:=aN) (a8 (r+1) om (by show n-(r+1)<n-r;omega) ?_))));refine back _ (iD ⟨sR ae,sR ae,sR ae,sR ae,sR ae,sR ae,sR ae,sR ae,sR ae,sR ae,sR ae,ah⟩ ⟨bR ae,bR ae,ah⟩ ae (λq hq=>?_) af);rw[aa2 p U (λh=>h.2 (by rw[B8];exact h5))];exact cC
     ·have h4:r=k:=by have:((r:Int)=(k:Int)):=uS;omega
      refine re ae (ax ae (λh5=>by cases h5) (λh5=>?_));refine aC (a6 (ai (rt ae (hp:=aN) (a8 (r+1) om (by show n-(r+1)<n-r;omega) ?_))));refine back _ (iD ⟨sR ae,sR ae,sR ae,sR ae,sR ae,sR ae,sR ae,sR ae,sR ae,sR ae,sR ae,ah⟩ ⟨bR ae,bR ae,ah⟩ ae (λq hq=>?_) af);rw[aa2 p U (λh=>h.1 h4)];exact cC
    ·have om:n=r:=by have h3:¬(r:Int)<(n:Int):=bC h3;omega
     subst om;refine bh (bt (bq (bp (ai ?_))));refine cK (rl dZ [(j:Int)] ae ae (ra ae ae ae ae ae ae ae ae ae ?_ ?_ (re ae (a6 (ai (rt ae (a8 (j+1) AN (by show n-(j+1)<n-j;omega) ?_)))))))
     ·show(_+1+(_+1)/4+192)*8≤_;omega
     ·show(_+1)*1≤_;omega
     show Wk _ ⟨[(0,.c (.L 1000 0 n (some n))),(1,cU p),(5,cI n),(6,.c (.X 5000000)),(7,.c (.X 6000000)),(25,cI n),(26,cI ((j+1:Nat):Int))],[(5000000,.vec 3 dZ (zl (gD p n F (j+1)).2.1)),(6000000,.vec 3 dZ (zl (gD p n F (j+1)).2.2))]++fg 1000 22 n 25 aM (gD p n F (j+1)).1,7,[]⟩;rw[MY];exact To 5000000 18003000 ⟨sR ae,sR ae,sR ae,sR ae,sR ae,sR ae,sR ae,ah⟩ ⟨⟨_,ae,di.of_eq (ay (aK.vec 3 dZ) (aa0 bF j))⟩,bR ae,ah⟩ ae (λq hq=>Wo) af af af ae af af af
  ·have IN:aG Tryz.prog 238 [cS (.sl aM) L,MR j] (.c (.I .i64 (-1))):=aaO L j (-1) af (λi hi=>by rw[uq i af,(i1 _ af).1];exact AN) (.inr ⟨ae,λi hi=>by rw[uq i af];exact hz _ af af⟩);rw[hL]at IN;refine rb (iV ae ae ?_ (ML ae ae ae (rct (z:= .I .i64 (-1)) ae ae ae (λq hq=>cC) af xx (bD _) IN (λ_ _ _ h=>h) (re ae ?_))))
   ·simp only[Pr.an,Pr.h,true_and,and_true];omega
   have MY:gD p n F (j+1)=(B,bF,free++[j]):=hS.trans (aaR hz);refine aj (rr ae (ax ae (λh1=>?_) (λh1=>?_)))
   ·refine rb (rl dZ [(j:Int)] ae ae (ra ae ae ae ae ae ae ae ae ae ?_ ?_ (re ae (bh (bt (bp (ai (rt ae (a8 (j+1) AN (by show n-(j+1)<n-j;omega) ?_)))))))))
    ·show(_+1+(_+1)/4+192)*8≤_;omega
    ·show(_+1)*1≤_;omega
    show Wk _ ⟨[(0,.c (.L 1000 0 n (some n))),(1,cU p),(5,cI n),(6,.c (.X 5000000)),(7,.c (.X 6000000)),(25,cI n),(26,cI ((j+1:Nat):Int))],[(5000000,.vec 3 dZ (zl (gD p n F (j+1)).2.1)),(6000000,.vec 3 dZ (zl (gD p n F (j+1)).2.2))]++fg 1000 22 n 25 aM (gD p n F (j+1)).1,7,[]⟩;rw[MY];exact To 6000000 12003000 ⟨sR ae,sR ae,sR ae,sR ae,sR ae,sR ae,sR ae,ah⟩ ⟨bR ae,⟨_,ae,di.of_eq (ay (aK.vec 3 dZ) (aa0 free j))⟩,ah⟩ ae (λq hq=>Wo) af af af ae af af af
   ·exfalso;have h1:¬((bF.length:Int)+ -1<(bF.length:Int)):=bC h1;omega
 ·have AN:j=n:=by have h:¬(j:Int)<(n:Int):=bC h;omega
  subst AN;have IS:j6 p j F=(gD p j F j).2.2.map λf=>mN p j (gD p j F j).1 (gD p j F j).2.1 f (gD p j F j).2.1.length:=rfl
  generalize Fy:gD p j F j=S at*;obtain⟨B,bF,free⟩:=S;simp only at i1 i2 i3 i4 IS⊢;have Tp:=MW bF;have hzf:=MW free;have MK:(j6 p j F).length=free.length:=by rw[IS,dM]
  have hkg:∀q,q<free.length→(j6 p j F)[q]? =some (mN p j B bF (free.getD q 0) bF.length):=λq hq=>by rw[IS,kc,aU,cr hq];rfl
  generalize j6 p j F=KL at*;refine bh (bt (bq (bp (ai (rr ae ?_)))));refine IH 5000000 ae ae ae af (IH 6000000 ae ae ae af ?_);refine aj (rr ae (aH (bA (α:=Nat) (λq=>⟨[(0,.c (.L 1000 0 j (some j))),(1,cU p),(5,cI j),(6,cS dZ (zl bF)),(17,.c (.X 10000000)),(149,cS dZ (zl free)),(150,cI free.length),(151,cI q)],[(10000000,.vec 22 (.sl aM) (KL.take q))]++fg 1000 22 j 25 aM B,11,[]⟩) (λq=>q≤free.length) (λq=>free.length-q) 0 (bK _) ?_ ?_)))
  ·exact tv 10000000 22 (.sl aM) (m2:=fg 1000 22 j 25 aM B) ⟨.inl (sR ae),.inl (sR ae),.inl (sR ae),.inl (sR ae),.inr ⟨ae,ae⟩,.inl (sR ae),.inl ⟨_,ae,au.of_eq (ay (λz:Nat=>cI (z:Int)) hzf)⟩,.inl (sR ae),ah⟩ ⟨bR ae,iQ.gA λq hq=>cC⟩ ae (Fw (conc:=[(10000000,.vec 22 (.sl aM) [])]) ae af af)
  intro q hq;have rW:(KL.take q).length=q:=zt;refine rr ae (aj (ax ae (λh1=>?_) (λh1=>?_)))
  ·have IT:q<free.length:=by have h1:(q:Int)<(free.length:Int):=a9 h1;omega
   have vf:=i2.fb q IT;have IU:(zl free).getD ((q:Int)).toNat 0=((free.getD q 0:Nat):Int):=by rw[bu,aa1]
   have att:(zl free).getD ((q:Int)).toNat dZ.eR=((free.getD q 0:Nat):Int):=IU;have hkq:=hkg q IT;generalize free.getD q 0=f at*;refine aC (ai (aj (aH (rr ae (hp:=aN) (rb ?_)))));refine rm aM j ae ae ae ae ae ae (lU .u64) ae ?_ ?_ (re ae ?_)
   ·show _*8≤_;omega
   ·show _*1≤_;omega
   have kF:(List.replicate j (0:Int)).length=j:=jy;have aa7:(List.replicate j aM.eR).length=j:=jy;refine rr ae (hp:=jT) (aj (rr ae (aH (bA (α:=Nat) (λt=>⟨[(0,.c (.L 1000 0 j (some j))),(1,cU p),(5,cI j),(6,cS dZ (zl bF)),(17,.c (.X 10000000)),(149,cS dZ (zl free)),(150,cI free.length),(151,cI q),(19,cI f),(20,.c (.X 13001000)),(160,cS dZ (zl bF)),(161,cI bF.length),(162,cI t)],[(10000000,.vec 22 (.sl aM) (KL.take q)),(13001000,.vec 25 aM (mN p j B bF f t))]++fg 1000 22 j 25 aM B,16,[]⟩) (λt=>t≤bF.length) (λt=>bF.length-t) 0 (bK _) ?_ ?_))))
   ·refine iD ⟨sR ae,sR ae,sR ae,sR ae,sR ae,sR ae,sR ae,sR ae,sE ae ?_,sR ae,sR ae,sE ae ?_,sR ae,ah⟩ ⟨bR ae,bE ae ?_,ah⟩ ae (λq hq=>cC) af
    ·exact ay cI IU
    ·exact ay (λz:Nat=>cI (z:Int)) Tp
    ·refine ay (aK.vec 25 aM) ?_;rw[IU,bu];rfl
   intro t ht;have eN:=IM p j B bF f t;have qy:=i2.pl;refine rr ae (aj (ax ae (λh2=>?_) (λh2=>?_)))
   ·have M5:t<bF.length:=by have h2:(t:Int)<(bF.length:Int):=a9 h2;omega
    have hpb:=i2.pb t M5;have Ct:(zl bF).getD ((t:Int)).toNat 0=((bF.getD t 0:Nat):Int):=by rw[bu,aa1]
    have atu:(zl bF).getD ((t:Int)).toNat dZ.eR=((bF.getD t 0:Nat):Int):=Ct;have Tt:t<j:=af;have hBt:=(i1 t Tt).2 f;have hBl:=(i1 t Tt).1;have Ih:(0:Int)≤(t:Int)∧(t:Int)<(j:Int):=⟨by omega,by omega⟩;have al6:mN p j B bF f (t+1)=(mN p j B bF f t).set (bF.getD t 0) (((p:Int)-(B t).getD f 0)%(p:Int)):=rfl;refine aC (ai (aj (aH (rr ae (hp:=aN) ?_))));refine cK (iV ae ae Ih (mL ar (c:= .X (1+t)) ae ae (tx Tt) ae (rk 1 ae ae (qV ar (T:=aM) (xs:=B t) ae cC ae ae af af (yQ ar ae cC ae ae ae (by show((f:Int)).toNat<_;omega) (re ae ?_ (hp:=?_)))))))
    ·refine a6 (ai (rt ae (hp:=aN) (a8 (t+1) M5 (by show bF.length-(t+1)<bF.length-t;omega) (iD ⟨sR ae,sR ae,sR ae,sR ae,sR ae,sR ae,sR ae,sR ae,sR ae,sR ae,sR ae,sR ae,sR ae,ah⟩ ⟨bR ae,bE ae ?_,ah⟩ ae (λq hq=>cC) af))));refine ay (aK.vec 25 aM) ?_;have e1:IntKind.wrap .u64 ((p:Int)-(B t).getD f 0)=(p:Int)-(B t).getD f 0:=wrap_u64 _ af af;rw[al6,Ct,bu,bu,e1,rB af]
    ·simp only[Pr.an,Pr.h,num,aA,true_and,and_true];omega
   ·have M5:t=bF.length:=by have h2:¬(t:Int)<(bF.length:Int):=bC h2;omega
    subst M5;refine bh (bt (bq (bp (ai (IH 13001000 ae ae ae af ?_)))));refine cK (rl (.sl aM) [mN p j B bF f bF.length] ae ae (ra ae ae ae ae ae ae ae ae ae ?_ ?_ (re ae (a6 (ai (rt ae (hp:=aN) (a8 (q+1) IT (by show free.length-(q+1)<free.length-q;omega) ?_)))))))
    ·show(_+1+(_+1)/4+192)*24≤_;omega
    ·show(_+1)*1≤_;omega
    refine To 10000000 17003000 ⟨sR ae,sR ae,sR ae,sR ae,sR ae,sR ae,sR ae,sR ae,ah⟩ ⟨bE ae ?_,ah⟩ ae (λq hq=>Wo) af af af ae af af af;refine ay (aK.vec 22 (.sl aM)) ?_;rw[uV,hkq];rfl
  ·have IT:q=free.length:=by have h1:¬(q:Int)<(free.length:Int):=bC h1;omega
   subst IT;rw[lI af];exact bh (bt (bq (bp (ai (IH 10000000 ae ae ae af (rr ae (aF (SZ ar ae (au.refl _)))))))))
end Go.El
namespace Go.El
open Go Go.Proofs
namespace Fx
variable{p:Nat}
def sF(f:Nat→Fx p):Nat→Fx p
 |0=>0
 |k+1=>sF f k+f k
def aa8{f g:Nat→Fx p}:∀{k:Nat},(∀i,i<k→f i=g i)→sF f k=sF g k
 |0,_=>rfl
 |k+1,h=>by rw[sF,sF,aa8 (λi hi=>h i af),h k af]
def Tu{Q:Fx p}{f g:Nat→Fx p}:∀{k:Nat},(∀i,i<k→Q∣f i-g i)→Q∣sF f k-sF g k
 |0,_=>xl Q _
 |k+1,h=>SB (Tu λi hi=>h i af) (h k af)
def aa9(H:bI p)(f:Nat→Fx p):∀k,pk (sF f k) p=sF (λi=>pk (f i) p) k
 |0=>SC xN
 |k+1=>by rw[sF,Ic H,aa9 H f k];rfl
def aa'(f:Nat→Int):∀k,sF (λi=>(K (f i):Fx p)) k=K (sm f k)
 |0=>mK.symm
 |k+1=>by rw[sF,aa' f k,sm,qQ]
def abb(w:List Int):∀k,(fx (w.take k):Fx p)=sF (λc=>K (w.getD c 0)*pk X c) k
 |0=>by rw[PE,og];rfl
 |k+1=>by rw[sF,←abb w k,SN];exact mk_congr (EX w k) _ ((aY.ps p _).add ((aY.K p _).mul (yM k)))
def al7{w:List Int}{n:Nat}(h:w.length≤n):(fx w:Fx p)=sF (λc=>K (w.getD c 0)*pk X c) n:=by rw[←abb,lI h]
def FA(x:Nat→Int)(L:Nat→List Int)(k:Nat):PS:=λr=>sm (λc=>x c*(L c).getD r 0) k
def abd(x:Nat→Int)(L:Nat→List Int)(k:Nat):FA x L k+PS.K (x k)*ps (L k)=FA x L (k+1):=PS.ext λi=>by rw[PS.fP,PS.gw];rfl
def abe(x:Nat→Int)(L:Nat→List Int)(k:Nat):aY p (FA x L k):=by
 induction k with
 |zero=>exact⟨0,λi _=>dk _⟩
 |succ k ih=>exact aY.cg (ih.add ((aY.K p (x k)).mul (aY.ps p (L k)))) (Cg.of_eq (abd x L k))
def M6(x:Nat→Int)(L:Nat→List Int):∀k,sF (λc=>(K (x c)*fx (L c):Fx p)) k=mk (FA x L k) (abe x L k)
 |0=>mk_congr (PS.ext λi=>rfl) (aY.zero p) _
 |k+1=>by rw[sF,M6 x L k];exact mk_congr (abd x L k) ((abe x L k).add ((aY.K p (x k)).mul (aY.ps p (L k)))) _
def abf{w:List Int}{n:Nat}{x:Nat→Int}{L:Nat→List Int}{k:Nat}(hw:w.length≤n)(hL:∀c,c<k→(L c).length≤n)(h:∀r,r<n→w.getD r 0%(p:Int)=sm (λc=>x c*(L c).getD r 0) k%p):(fx w:Fx p)=sF (λc=>(K (x c)*fx (L c):Fx p)) k:=by
 rw[M6];refine mk_eq.2 (Cg.of λr=>?_);by_cases hr:r<n
 ·exact h r hr
 ·rw[dV,dH w af,FA,oe (λc hc=>by rw[dH (L c) (by have:=hL c hc;omega),et])]
def al8{w:List Int}{x:Nat→Int}{L:Nat→List Int}{k:Nat}(h:(fx w:Fx p)=sF (λc=>(K (x c)*fx (L c):Fx p)) k)(r:Nat):w.getD r 0%(p:Int)=sm (λc=>x c*(L c).getD r 0) k%p:=by rw[M6]at h;exact(mk_eq.1 h).at r
end Fx
open Fx
structure AO(p n:Nat)(f:List Int)(im:Nat→List Int)(G:Nat→Nat→Int):Prop where
 len:∀c,c<n→(im c).length≤n
 abg:∀c,c<n→(fx f:Fx p)∣fx (im c)-pk X (p*c)
 ent:∀r c,r<n→c<n→G r c%(p:Int)=((im c).getD r 0-if r=c then 1 else 0)%p
def AO.dot{p n:Nat}{f:List Int}{im:Nat→List Int}{G:Nat→Nat→Int}(h:AO p n f im G)(w:Nat→Int){r:Nat}(hr:r<n):ib n (G r) w%(p:Int)=(sm (λc=>w c*(im c).getD r 0) n-w r)%p:=by
 have e1:ib n (G r) w%(p:Int)=sm (λc=>w c*(im c).getD r 0+(-1)*(if c=r then w c else 0)) n%p:=IL λc hc=>by
  rw[aaE (h.ent r c hr hc) ae];congr 1;by_cases e:r=c
  ·subst e;rw[aw ae,aw ae,x5,fh ((im r).getD r 0)];omega
  ·rw[aq e,aq (λh=>e h.symm),DL,fh];omega
 rw[e1,Ck,uw,Fo (a:=r) hr (λi _ aR=>aq aR),aw ae];congr 1;omega
def AO.iff{p n:Nat}(H:bI p){f:List Int}{im:Nat→List Int}{G:Nat→Nat→Int}(h:AO p n f im G)(hf:bX p f)(oQ:f.length=n+1){w:List Int}(hw:w.length≤n):se p n G (λc=>w.getD c 0)↔(fx f:Fx p)∣pk (fx w) p-fx w:=by
 have hA:(fx f:Fx p)∣sF (λc=>(K (w.getD c 0)*fx (im c):Fx p)) n-pk (fx w) p:=by
  have e:pk (fx w:Fx p) p=sF (λc=>K (w.getD c 0)*pk X (p*c)) n:=by rw[al7 hw,aa9 H];exact aa8 λc _=>by rw[xm,Cn H,←Cv,ix]
  rw[e];exact Tu λc hc=>E4 (xl _ _) (h.abg c hc)
 constructor
 ·intro hs;have e:(fx w:Fx p)=sF (λc=>(K (w.getD c 0)*fx (im c):Fx p)) n:=abf hw h.len λr hr=>by have h1:=hs r hr;rw[h.dot _ hr]at h1;have:=Bb.2 h1;exact this.symm
  rw[←e]at hA;exact nL hA
 ·intro hd r hr;have h1:=rZ hA hd;have h2:=vK H h1 (by
   have h3:=Iq H.pos (sF (λc=>(K (w.getD c 0)*fx (im c):Fx p)) n) (fx w);have h4:=akR H.pos w (p:=(p:Int));have h5:sz (sF (λc=>(K (w.getD c 0)*fx (im c):Fx p)) n)≤n:=by rw[M6];refine yN H.pos _ (λi hi=>?_);rw[FA,oe (λc hc=>by rw[dH (im c) (by have:=h.len c hc;omega),et]),dk]
   rw[dj hf];omega)
  have h3:=al8 (EZ h2).symm r;rw[h.dot _ hr];exact Bb.1 h3.symm
def AO.ig{p n:Nat}(H:bI p){f:List Int}{im:Nat→List Int}{F:Nat→List Int}(h:AO p n f im (mG F))(hF:nM p n F)(hf:Mon p f)(oQ:f.length=n+1)(hs:lE (fx f:Fx p)){g:List Int}(hg:Mon p g)(Ad:2≤g.length)(hd:(fx g:Fx p)∣fx f)(hc:∀q,q<(j6 p n F).length→∃c,(fx g:Fx p)∣fx ((j6 p n F).getD q [])-K c):cj (fx g:Fx p):=by
 refine akT H (hf.nj H) hs hd (by rw[dj hg.c];exact Ad) λw hw=>?_
 obtain⟨m1,m2,m3⟩:=CH H hf.c hf.ne w;have xu:(fx f:Fx p)∣pk (fx (mM H (f) w)) p-fx (mM H f w):=rZ (Cw m3 p) (rZ hw (nL m3));have al9:=(h.iff H hf.c oQ af).2 xu;obtain⟨k1,k2,k3⟩:=aaV H hF;obtain⟨x,hx⟩:=k3 _ al9;have e:(fx (mM H f w):Fx p)=sF (λq=>(K (x q)*fx ((j6 p n F).getD q []):Fx p)) (j6 p n F).length:=abf (n:=n) af (λq hq=>by
  have hm:(j6 p n F).getD q []∈j6 p n F:=by rw[aU,cr hq];exact k6 hq
  exact PK (k2 _ hm).1) hx
 have wP:∃cc:Nat→Int,∀q,q<(j6 p n F).length→(fx g:Fx p)∣fx ((j6 p n F).getD q [])-K (cc q):=by refine⟨λq=>if hq:q<(j6 p n F).length then Classical.choose (hc q hq)else 0,λq hq=>?_⟩;simp only[dif_pos hq];exact xQ (hc q hq)
 obtain⟨cc,wP⟩:=wP;refine⟨sm (λq=>x q*cc q) (j6 p n F).length,?_⟩;have h1:(fx g:Fx p)∣fx (mM H f w)-K (sm (λq=>x q*cc q) (j6 p n F).length):=by rw[e,←aa'];exact Tu λq hq=>by rw[gw];exact E4 (xl _ _) (wP q hq)
 exact rZ (nL (dvd_trans hd m3)) h1
end Go.El
namespace Go.El
open Go Go.Proofs Fx
noncomputable def nN{p:Nat}(H:bI p)(f:List Int):Nat→List Int
 |0=>[1]
 |c+1=>sc p f (nN H f c) (mM H f (pk X p))
def Tv{p:Nat}(H:bI p){f:List Int}(hf:Mon p f)(h3:3≤f.length):∀c,bX p (nN H f c)∧(nN H f c).length<f.length∧(fx f:Fx p)∣fx (nN H f c)-pk X (p*c)
 |0=>by refine⟨⟨xi ak xN,.inr (by show(1:Int)≠0;decide)⟩,by show 1<_;omega,?_⟩;rw[KK,nN,Mv];exact xl _ _
 |c+1=>by obtain⟨i1,i2,i3⟩:=Tv H hf h3 c;obtain⟨m1,m2,m3⟩:=CH H hf.c hf.ne (pk (X:Fx p) p);obtain⟨q1,q2,q3⟩:=S7 H (a:=nN H f c) (b:=mM H f (pk X p)) hf.c hf.ne;refine⟨q1,q2,rZ q3 ?_⟩;rw[GK,tn];exact E4 i3 m3
def kL(p n:Nat)(im:Nat→List Int)(i:Nat):Nat→List Int:=λr=>(List.range n).map λc=>if c<i then(if r=c then((im c).getD r 0+(p:Int)-1)%(p:Int)else(im c).getD r 0)else 0
def mO(p n:Nat)(im:Nat→List Int)(i j:Nat):Nat→List Int:=λr=>if r<j then(kL p n im i r).set i ((im i).getD r 0)else kL p n im i r
def yU(p n:Nat)(im:Nat→List Int)(i r:Nat):(kL p n im i r).length=n:=by simp[kL]
def AP(p n:Nat)(im:Nat→List Int)(i r:Nat){c:Nat}(h:c<n):(kL p n im i r).getD c 0=if c<i then(if r=c then((im c).getD r 0+(p:Int)-1)%(p:Int)else(im c).getD r 0)else 0:=MS _ h
def Tw(p n:Nat)(im:Nat→List Int)(i j r:Nat):(mO p n im i j r).length=n:=by
 unfold mO;split
 ·rw[gO,yU]
 ·exact yU _ _ _ _ _
def al'(p n:Nat)(im:Nat→List Int)(i:Nat):mO p n im i 0=kL p n im i:=funext λr=>by unfold mO;rw[aq af]
def ama(p n:Nat)(im:Nat→List Int)(i j:Nat):mO p n im i j j=kL p n im i j:=by unfold mO;rw[aq af]
def amb(p n:Nat)(im:Nat→List Int)(i j:Nat):fH (mO p n im i j) j ((kL p n im i j).set i ((im i).getD j 0))=mO p n im i (j+1):=funext λr=>by
 unfold fH mO;by_cases e:r=j
 ·subst e;rw[aw ae,aw af]
 ·rw[aq e];by_cases h:r<j
  ·rw[aw h,aw af]
  ·rw[aq h,aq af]
def abi(l:List Int)(i c:Nat)(x:Int)(h:i<l.length):(l.set i x).getD c 0=if i=c then x else l.getD c 0:=by
 rw[aU,GC];by_cases e:i=c
 ·subst e;rw[aw ae,aw ae,aw h];rfl
 ·rw[aq e,aq e,aU]
def Tx{p n:Nat}{im:Nat→List Int}{i r c:Nat}(hi:i<n)(hc:c<n):(mO p n im i (im i).length r).getD c 0=if c=i then(im i).getD r 0 else(kL p n im i r).getD c 0:=by
 unfold mO;by_cases h:r<(im i).length
 ·rw[aw h,abi _ _ _ _ (by rw[yU];exact hi)];by_cases e:i=c
  ·rw[aw e,aw e.symm]
  ·rw[aq e,aq (λh=>e h.symm)]
 ·rw[aq h];by_cases e:c=i
  ·subst e;rw[aw ae,AP p n im c r hc,aq af,dH _ af]
  ·rw[aq e]
def amc{p n:Nat}{im:Nat→List Int}{i:Nat}(hi:i<n):∀r,r<n→fH (mO p n im i (im i).length) i ((mO p n im i (im i).length i).set i (((im i).getD i 0+(p:Int)-1)%(p:Int))) r=kL p n im (i+1) r:=by
 intro r hr;have hl:=Tw p n im i (im i).length;unfold fH;by_cases e:r=i
 ·subst e;rw[aw ae];refine CJ (by rw[gO,hl,yU]) λc hc=>?_
  rw[gO,hl]at hc;rw[abi _ _ _ _ (by rw[hl];exact hr),Tx hr hc,AP p n im (r+1) r hc,AP p n im r r hc];by_cases e:r=c
  ·subst e;rw[aw ae,aw af,aw ae]
  ·rw[aq e,aq (λh=>e h.symm),aq e];by_cases h2:c<r
   ·rw[aw h2,aw af]
   ·rw[aq h2,aq af]
 ·rw[aq e];refine CJ (by rw[hl,yU]) λc hc=>?_
  rw[hl]at hc;rw[Tx hi hc,AP p n im (i+1) r hc,AP p n im i r hc];by_cases e2:c=i
  ·subst e2;rw[aw ae,aw af,aq e]
  ·rw[aq e2];by_cases h2:c<i
   ·simp only[aw h2,aw (show c<i+1 by omega)]
   ·rw[aq h2,aq af]
def abj{p n:Nat}(H:bI p){im:Nat→List Int}(h:∀c,rp p (im c))(i:Nat):nM p n (kL p n im i):=λr _=>⟨yU _ _ _ _ _,λc=>by
 have hp:=H.pos;by_cases hc:c<n
 ·rw[AP p n im i r hc];split
  ·split
   ·exact⟨gZ _ af,iv _ hp⟩
   ·exact h c r
  ·exact⟨jB _,hp⟩
 ·rw[dH _ (by rw[yU];omega)];exact⟨jB _,hp⟩⟩
def amd{p n:Nat}{f:List Int}{im:Nat→List Int}(h1:∀c,(im c).length≤n)(h2:∀c,(fx f:Fx p)∣fx (im c)-pk X (p*c)):AO p n f im (mG (kL p n im n)) where
 len:=λc _=>h1 c
 abg:=λc _=>h2 c
 ent:=λr c _ hc=>by
  show(kL p n im n r).getD c 0%(p:Int)=_;rw[AP p n im n r hc,aw hc];by_cases e:r=c
  ·rw[aw e,aw e,k8,show(im c).getD r 0+(p:Int)-1=(im c).getD r 0-1+p by omega,Int.add_emod_right]
  ·rw[aq e,aq e,DL]
structure IV(p:Nat)(f v:List Int):Prop where
 IW:f.length≤200
 bT:Mon p f
 two:2≤f.length
 vO:lE (fx f:Fx p)
 c:bX p v
 ne:v≠[]
 lv:v.length≤200
 kn:(fx f:Fx p)∣pk (fx v) p-fx v
def IV.ex{p:Nat}(H:bI p){f v:List Int}(h:IV p f v):∃l,S' p f (fx v) l∧l.length+1≤f.length∧m9 Tryz.prog 184 [aP f p,aP v p] 101 PT (lP p l):=
 Tb H (f.length+1) f v (fT _) h.IW h.bT h.two h.vO h.c h.ne h.lv h.kn
open Classical in
noncomputable def tA{p:Nat}(H:bI p)(f v:List Int):List (List Int):=if h:IV p f v then Classical.choose (h.ex H)else[]
def M7{p:Nat}(H:bI p){f v:List Int}(h:IV p f v):S' p f (fx v) (tA H f v)∧(tA H f v).length+1≤f.length∧m9 Tryz.prog 184 [aP f p,aP v p] 101 PT (lP p (tA H f v)):=by unfold tA;rw[dif_pos h];exact xQ (h.ex H)
noncomputable def mQ{p:Nat}(H:bI p)(f:List Int)(KL:List (List Int)):Nat→List (List Int)
 |0=>[f]
 |q+1=>(mQ H f KL q).flatMap λg=>tA H g (a7 (KL.getD q []))
def abk{p:Nat}{φ:List Int→List (List Int)}:∀{l:List (List Int)},(∀g∈l,j5 p (φ g)=fx g)→j5 p (l.flatMap φ)=j5 p l
 |[],_=>rfl
 |g::l,h=>by rw[gN,S9,h g be,abk λg hg=>h g (by simp[hg])];rfl
def Ty{p:Nat}(H:bI p):∀{l:List (List Int)},(∀g∈l,Mon p g∧2≤g.length)→j5 p l≠0∧l.length+1≤sz (j5 p l)
 |[],_=>⟨oh H,by rw[j5,oY H];exact bD _⟩
 |g::l,h=>by
  obtain⟨h1,h2⟩:=Ty H (l:=l) λg hg=>h g (by simp[hg])
  obtain⟨m1,m2⟩:=h g be;have h3:=eH H (m1.nj H) h1;rw[dj m1.c]at h3;refine⟨oX H (m1.nj H) h1,?_⟩;rw[j5,fv];omega
def abl{φ:List Int→List (List Int)}{b:Nat}:∀{l:List (List Int)},(∀g∈l,(φ g).length≤b)→(l.flatMap φ).length≤l.length*b
 |[],_=>by simp
 |g::l,h=>by
  have h1:=abl (l:=l) λg hg=>h g (by simp[hg])
  have h2:=h g be;rw[gN,kA,fv,Nat.succ_mul];omega
structure M8(p:Nat)(f:List Int)(KL:List (List Int)):Prop where
 IW:f.length≤200
 bT:Mon p f
 two:2≤f.length
 vO:lE (fx f:Fx p)
 v:∀q,q<KL.length→rp p (KL.getD q [])∧(KL.getD q []).length≤200∧(∃i,(KL.getD q []).getD i 0≠0)∧(fx f:Fx p)∣pk (fx (KL.getD q [])) p-fx (KL.getD q [])
structure IX(p:Nat)(f:List Int)(KL:List (List Int))(q:Nat)(l:List (List Int)):Prop where
 parts:∀g∈l,Mon p g∧2≤g.length∧(fx g:Fx p)∣fx f∧∀k,k<q→∃c,(fx g:Fx p)∣fx (KL.getD k [])-K c
 prod:j5 p l=fx f
def IX.pre{p:Nat}(H:bI p){f:List Int}{KL:List (List Int)}{q:Nat}{l:List (List Int)}(hk:M8 p f KL)(h:IX p f KL q l)(hq:q<KL.length):∀g∈l,IV p g (a7 (KL.getD q [])):=by
 intro g hg;obtain⟨g1,g2,g3,_⟩:=h.parts g hg;obtain⟨v1,v2,⟨i,v3⟩,v4⟩:=hk.v q hq;have jP:g.length≤f.length:=by have:=j3 H g3 (hk.bT.nj H);rwa[dj g1.c,dj hk.bT.c]at this
 have:=hk.IW;refine⟨by omega,g1,g2,hk.vO.of_dvd g3,nJ H.pos v1,λe=>v3 ?_,?_,?_⟩
 ·have h1:ps (a7 (KL.getD q [])) i=ps (KL.getD q []) i:=by rw[Cq]
  rw[e,dV,dV]at h1;exact h1.symm
 ·have:=vJ (KL.getD q []);omega
 ·rw[xn];exact dvd_trans g3 v4
def M9{p:Nat}(H:bI p){f:List Int}{KL:List (List Int)}(hk:M8 p f KL):∀q,q≤KL.length→IX p f KL q (mQ H f KL q)
 |0,_=>⟨λg hg=>by have e:=jJ.1 (show g∈[f]from hg);subst e;exact⟨hk.bT,hk.two,dvd_refl _,λk hk=>by omega⟩,by rw[mQ,j5,j5,mul_one]⟩
 |q+1,hq=>by
  have ih:=M9 H hk q af;have xy:=ih.pre H hk af;refine⟨λg hg=>?_,?_⟩
  ·obtain⟨g0,h1,h2⟩:=jK.1 (show g∈(mQ H f KL q).flatMap _ from hg);obtain⟨s1,s2,s3⟩:=M7 H (xy g0 h1);obtain⟨_,_,g3,g4⟩:=ih.parts g0 h1;obtain⟨p1,p2,p3⟩:=s1.parts g h2;have hgg:(fx g:Fx p)∣fx g0:=by rw[←s1.prod];exact Fm p h2
   refine⟨p1,p2,dvd_trans hgg g3,λk hk=>?_⟩;by_cases e:k=q
   ·subst e;rwa[xn]at p3
   ·obtain⟨c,hc⟩:=g4 k af;exact⟨c,dvd_trans hgg hc⟩
  ·rw[mQ,abk λg hg=>(M7 H (xy g hg)).1.prod];exact ih.prod
def IX.len{p:Nat}(H:bI p){f:List Int}{KL:List (List Int)}{q:Nat}{l:List (List Int)}(hf:Mon p f)(h:IX p f KL q l):l.length+1≤f.length:=by
 obtain⟨_,h2⟩:=Ty H (l:=l) λg hg=>⟨(h.parts g hg).1,(h.parts g hg).2.1⟩
 rw[h.prod,dj hf.c]at h2;exact h2
structure Na(p:Nat)(f:List Int)(l:List (List Int)):Prop where
 parts:∀g∈l,Mon p g∧2≤g.length∧cj (fx g:Fx p)
 prod:j5 p l=fx f
def ame{p:Nat}(H:bI p){f:List Int}(hf:Mon p f)(h2:f.length=2):cj (fx f:Fx p):=by
 refine⟨by rw[dj hf.c];omega,λA B e=>?_⟩;have h0:=hf.nj H;have hA:A≠0:=λe2=>h0 (by rw[e,e2,zero_mul])
 have hB:B≠0:=λe2=>h0 (by rw[e,e2,mul_zero])
 have h3:=eH H hA hB;rw[←e,dj hf.c]at h3;have:=eP H.pos hA;have:=eP H.pos hB;omega
noncomputable def q9{p:Nat}(H:bI p)(f:List Int):List (List Int):=j6 p (f.length-1) (kL p (f.length-1) (nN H f) (f.length-1))
def abn{p:Nat}(H:bI p){f:List Int}(hf:Mon p f)(h3:3≤f.length)(sf:f.length≤200)(hs:lE (fx f:Fx p)):M8 p f (q9 H f)∧(q9 H f).length≤f.length∧Na p f (mQ H f (q9 H f) (q9 H f).length):=by
 have hi:=Tv H hf h3;have oQ:f.length=(f.length-1)+1:=af;have qq:AO p (f.length-1) f (nN H f) (mG (kL p (f.length-1) (nN H f) (f.length-1))):=amd (λc=>by have:=(hi c).2.1;omega) (λc=>(hi c).2.2);have hR:nM p (f.length-1) (kL p (f.length-1) (nN H f) (f.length-1)):=abj H (λc=>(hi c).1.1) _;obtain⟨k1,k2,k3⟩:=aaV H hR;have CN:M8 p f (q9 H f):=by
  refine⟨sf,hf,by omega,hs,λq hq=>?_⟩;have hm:(q9 H f).getD q []∈j6 p (f.length-1) (kL p (f.length-1) (nN H f) (f.length-1)):=by show(j6 p (f.length-1) (kL p (f.length-1) (nN H f) (f.length-1))).getD q []∈_;have hq:q<(j6 p (f.length-1) (kL p (f.length-1) (nN H f) (f.length-1))).length:=hq;rw[aU,cr hq];exact k6 hq
  obtain⟨v1,v2,v3,v4⟩:=k2 _ hm;exact⟨v2,by omega,v3,(qq.iff H hf.c oQ af).1 v4⟩
 have oi:=M9 H CN (q9 H f).length (bD _);refine⟨CN,by show(j6 _ _ _).length≤_;omega,⟨λg hg=>?_,oi.prod⟩⟩;obtain⟨g1,g2,g3,g4⟩:=oi.parts g hg;exact⟨g1,g2,qq.ig H hR hf oQ hs g1 g2 g3 g4⟩
noncomputable def nO{p:Nat}(H:bI p)(f:List Int):List (List Int):=if f.length≤2 then[f]else mQ H f (q9 H f) (q9 H f).length
def Tz{p:Nat}(H:bI p){f:List Int}(hf:Mon p f)(h2:2≤f.length)(sf:f.length≤200)(hs:lE (fx f:Fx p)):Na p f (nO H f):=by
 unfold nO;split
 ·refine⟨λg hg=>?_,by rw[j5,j5,mul_one]⟩;have e:=jJ.1 hg;subst e;exact⟨hf,h2,ame H hf af⟩
 ·exact(abn H hf af sf hs).2.2
end Go.El
