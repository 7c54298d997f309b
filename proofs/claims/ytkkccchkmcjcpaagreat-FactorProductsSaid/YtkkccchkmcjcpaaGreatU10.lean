/- Plain: derivatives, factors and Yun's algorithm over the rationals. Own work; no condition. -/
import Derived.Test.YtkkccchkmcjcpaaGreatU9
import Derived.Test.YtkkccchkmcjcpaaGreatU6
import Derived.Test.YtkkccchkmcjcpaaGreatU7
set_option linter.defProp false
set_option linter.unusedVariables false
set_option linter.unusedSimpArgs false
set_option linter.unnecessarySimpa false
namespace Go.El
namespace Rx
def xr{A B C D:Rx}(h:A∣B)(k:C∣D):A*C∣B*D:=by obtain⟨w,rfl⟩:=h;obtain⟨v,rfl⟩:=k;exact⟨w*v,by ac_rfl⟩
def ts{c:Rat}(h:c≠0):sz (K c)=1:=Cx (pT h)
def T6{A B:Rx}{c:Rat}(hc:c≠0)(h:A∣K c*B):A∣B:=by
 have e:B=K c⁻¹ *(K c*B):=by rw[←mul_assoc,pT hc,one_mul]
 rw[e];exact fl h _
def bG(A:Rx):Rx:=⟨λi=>((i+1:Nat):Rat)*A (i+1),by obtain⟨n,h⟩:=A.2;exact⟨n,λi hi=>by rw[h (i+1) af,jA]⟩⟩
def sn(A:Rx)(i:Nat):bG A i=((i+1:Nat):Rat)*A (i+1):=rfl
def Is(x y:Rx):bG (x+y)=bG x+bG y:=ext λi=>by rw[sn,fP,fP,Rat.mul_add];rfl
def E8(c:Rat):bG (K c)=0:=ext λi=>by rw[sn,tC,aq af,jA];rfl
def SM:bG 0=0:=by rw[←mK,E8,mK]
def amV:bG 1=0:=E8 1
def E9(c:Rat)(x:Rx):bG (K c*x)=K c*bG x:=ext λi=>by rw[sn,iE,iE,sn];grind
def It(x:Rx):bG (X 1*x)=x+X 1*bG x:=ext λi=>by
 rw[sn,qP,fP,qP,aw af,iY];cases i with
 |zero=>rw[aq af,rF];exact zI _
 |succ i=>
  rw[aw af,iY,sn,Pz (i+1) 1]
  grind
def Iu(B:Rx):∀a:List Rat,bG (lx a*B)=bG (lx a)*B+lx a*bG B
 |[]=>by rw[xC,zero_mul,SM,zero_mul,zero_mul,zero_add]
 |c::a=>by have ih:=Iu B a;rw[I',add_mul,Is,E9,mul_assoc,It,ih,Is,E8,zero_add,It];simp only[add_mul,mul_add];ac_rfl
def vL(A B:Rx):bG (A*B)=bG A*B+A*bG B:=by obtain⟨a,_,rfl⟩:=kI A;exact Iu B a
def Iv(Q:Rx):∀e,bG (pk Q (e+1))=pk Q e*(K ((e+1:Nat):Rat)*bG Q)
 |0=>by rw[Cu];show bG Q=1*(K 1*bG Q);rw[l7,one_mul,one_mul]
 |e+1=>by rw[show pk Q (e+1+1)=pk Q (e+1)*Q from ae,vL,Iv Q e,Pz (e+1) 1,qQ,add_mul,mul_add];rw[show(K ((1:Nat):Rat):Rx)=1 from ae,one_mul,show pk Q (e+1)=pk Q e*Q from ae];ac_rfl
def acg{Q:Rx}(h:2≤sz Q):bG Q≠0:=λe=>by
 obtain⟨n,hn⟩:∃n,sz Q=n+1+1:=⟨sz Q-2,by omega⟩;have h1:=Jc hn;have h2:bG Q n=(0:Rx) n:=qh;rw[sn,lZ]at h2;rcases DJ.1 h2 with h2|h2
 ·have:n+1=0:=by exact_mod_cast h2
  omega
 ·exact h1 h2
def Iw{Q:Rx}:sz (bG Q)≤sz Q-1:=vT λi hi=>by rw[sn,oq af,jA]
def cj.FJ{Q:Rx}(h:cj Q):¬Q∣bG Q:=λhd=>by have h1:=h.1;have h2:=Iw (Q:=Q);exact acg h1 (vK hd af)
def Mo(A:Rx):Prop:=A (sz A-1)=1
def Mo.ne{A:Rx}(h:Mo A):A≠0:=λe=>by subst e;have h1:(0:Rat)=1:=h;exact absurd h1 ak
def Mo.at{A:Rx}(h:Mo A){n:Nat}(hn:sz A=n+1):A n=1:=by have:=h;rwa[Mo,hn,iY]at this
def ach{A B:Rx}{m n:Nat}(hm:sz A=m+1)(hn:sz B=n+1):(A*B) (m+n)=A m*B n:=yG (λi hi=>oq af) (λi hi=>oq af)
def FK{A:Rx}(h:A≠0):∃n,sz A=n+1:=⟨sz A-1,by have:=eP h;omega⟩
def Mo.mul{A B:Rx}(h:Mo A)(k:Mo B):Mo (A*B):=by obtain⟨m,hm⟩:=FK h.ne;obtain⟨n,hn⟩:=FK k.ne;have h1:=eH h.ne k.ne;rw[Mo,show sz (A*B)-1=m+n by omega,ach hm hn,h.at hm,k.at hn,zI]
def Mo.CP{A B:Rx}(h:Mo (A*B))(k:Mo B):Mo A:=by
 have hA:A≠0:=λe=>h.ne Ki
 obtain⟨m,hm⟩:=FK hA;obtain⟨n,hn⟩:=FK k.ne;have h1:=eH hA k.ne;have h2:=h.at (n:=m+n) af;rw[ach hm hn,k.at hn,Bv]at h2;rw[Mo,hm];exact h2
def T7:Mo 1:=by have:sz (1:Rx)=1:=oY;rw[Mo,this];rfl
def Mo.pk{A:Rx}(h:Mo A):∀n,Mo (pk A n)
 |0=>T7
 |n+1=>(Mo.pk h n).mul h
def Mo.unit{A:Rx}(h:Mo A)(h1:sz A=1):A=1:=by obtain⟨c,hc,rfl⟩:=E7 h1;have h2:=h.at h1;rw[show c=1 from h2];rfl
def Mo.eq{A B:Rx}(h:Mo A)(k:Mo B)(h1:A∣B)(h2:B∣A):A=B:=by have e1:=j3 h1 k.ne;have e2:=j3 h2 h.ne;obtain⟨w,rfl⟩:=h1;have hw:Mo w:=k.CP h;have e3:=eH hw.ne h.ne;have e4:w=1:=hw.unit af;rw[e4,one_mul]
def T8{A:Rx}(h:A≠0):∃c:Rat,c≠0∧Mo (K c*A):=by
 obtain⟨n,hn⟩:=FK h;have h1:=Jc hn;have h2:(A n)⁻¹ ≠0:=λe=>by have:=oJ _ h1;rw[e,u6]at this;exact absurd this ak
 refine⟨(A n)⁻¹,h2,?_⟩;have h3:=eH (tq h2) h;rw[ts h2]at h3;rw[Mo,show sz (K (A n)⁻¹ *A)-1=n by omega,iE,oJ _ h1]
def cj.smul{Q:Rx}(h:cj Q){c:Rat}(hc:c≠0):cj (K c*Q):=by
 have h3:=eH (tq hc) h.ne;rw[ts hc]at h3;refine⟨by have:=h.1;omega,λA B e=>?_⟩;have e2:Q=(K c⁻¹ *A)*B:=by rw[mul_assoc,←e,←mul_assoc,pT hc,one_mul]
 rcases h.2 _ _ e2 with e3|e3
 ·left;have rf:c⁻¹ ≠0:=λe=>by have:=oJ _ hc;rw[e,u6]at this;exact absurd this ak
  have hA:A≠0:=λe4=>by rw[e4,mul_zero,kJ]at e3;omega
  have:=eH (tq rf) hA;rw[ts rf]at this;omega
 ·exact .inr e3
def cj.assoc{Q q:Rx}(h:cj Q)(k:cj q)(hd:Q∣q):q∣Q:=by
 obtain⟨w,hw⟩:=hd;rcases k.2 _ _ hw with e|e
 ·obtain⟨C,hC⟩:=xp e;exact⟨C,by rw[hw,←mul_assoc,hC,one_mul]⟩
 ·have:=h.1;omega
def cj.eq{Q q:Rx}(h:cj Q)(k:cj q)(hm:Mo Q)(km:Mo q)(hd:Q∣q):Q=q:=hm.eq km hd (h.assoc k hd)
def mult{Q:Rx}(hQ:cj Q):∀(n:Nat)(F:Rx),sz F<n→F≠0→∃e h,F=pk Q e*h∧¬Q∣h
 |0,_,h,_=>by omega
 |n+1,F,h,hF=>by
  by_cases hd:Q∣F
  ·obtain⟨w,rfl⟩:=hd;have hw:w≠0:=λe=>hF Ki
   have h1:=eH hw hQ.ne;have h2:=hQ.1;obtain⟨e,g,rfl,h3⟩:=mult hQ n w af hw;exact⟨e+1,g,by rw[pk];ac_rfl,h3⟩
  ·exact⟨0,F,(one_mul F).symm,hd⟩
def cj.pk{Q A:Rx}(h:cj Q):∀{n:Nat},Q∣pk A n→0<n∧Q∣A
 |0,hd=>absurd hd h.xq
 |n+1,hd=>by
  rcases h.r6 hd with e|e
  ·exact⟨by omega,(cj.pk h e).2⟩
  ·exact⟨by omega,e⟩
structure FL(L:List (Rx×Nat)):Prop where
 ig:∀x∈L,cj x.1
 mo:∀x∈L,Mo x.1
 pos:∀x∈L,1≤x.2
 so:L.Pairwise (λx y=>x.1≠y.1)
def FL.tail{x:Rx×Nat}{L:List (Rx×Nat)}(h:FL (x::L)):FL L:=⟨λy hy=>h.ig y oG,λy hy=>h.mo y oG,λy hy=>h.pos y oG,(jW.1 h.so).2⟩
def FL.T9:∀{L:List (Rx×Nat)},L.Pairwise (λx y=>x.1≠y.1)→∀{x z:Rx×Nat},x∈L→z∈L→x≠z→x.1≠z.1
 |y::L,h,x,z,hx,hz,aR=>by
  obtain⟨h1,h2⟩:=jW.1 h;rcases dC.1 hx with e1|lT
  ·rcases dC.1 hz with e2|g8
   ·exact absurd (e1.trans e2.symm) aR
   ·rw[e1];exact h1 z g8
  ·rcases dC.1 hz with e2|g8
   ·rw[e2];exact(h1 x lT).symm
   ·exact FL.T9 h2 lT g8 aR
def pF(c:Nat→Nat):List (Rx×Nat)→Rx
 |[]=>1
 |x::L=>pk x.1 (c x.2)*pF c L
def FM(c d:Nat→Nat):∀L,pF (λm=>c m+d m) L=pF c L*pF d L
 |[]=>(one_mul 1).symm
 |x::L=>by rw[pF,pF,pF,FM c d L,tn];ac_rfl
def CQ{c d:Nat→Nat}:∀{L:List (Rx×Nat)},(∀x∈L,c x.2=d x.2)→pF c L=pF d L
 |[],_=>rfl
 |x::L,h=>by rw[pF,pF,h x be,CQ (λy hy=>h y oG)]
def vU{c:Nat→Nat}:∀{L:List (Rx×Nat)},(∀x∈L,Mo x.1)→Mo (pF c L)
 |[],_=>T7
 |x::L,h=>((h x be).pk _).mul (vU λy hy=>h y oG)
def Ua{c:Nat→Nat}:∀{L:List (Rx×Nat)},(∀x∈L,c x.2=0)→pF c L=1
 |[],_=>rfl
 |x::L,h=>by rw[pF,h x be,Ua (λy hy=>h y oG)];exact one_mul 1
def FN{c:Nat→Nat}:∀{L:List (Rx×Nat)}{x:Rx×Nat},x∈L→0<c x.2→x.1∣pF c L
 |y::L,x,h,hc=>by
  rw[pF];rcases dC.1 h with rfl|h
  ·obtain⟨e,he⟩:∃e,c x.2=e+1:=⟨c x.2-1,by omega⟩;rw[he,pk];exact qU (dvd_mul_left _ _) _
  ·exact fl (FN h hc) _
def AR{c:Nat→Nat}{Q:Rx}(hQ:cj Q):∀{L:List (Rx×Nat)},Q∣pF c L→∃x∈L,0<c x.2∧Q∣x.1
 |[],h=>absurd h hQ.xq
 |y::L,h=>by
  rcases hQ.r6 h with e|e
  ·exact⟨y,by simp,hQ.pk e⟩
  ·obtain⟨x,h1,h2⟩:=AR hQ e;exact⟨x,by simp[h1],h2⟩
def FL.aci{x:Rx×Nat}{L:List (Rx×Nat)}(h:FL (x::L)){c:Nat→Nat}:¬x.1∣pF c L:=λhd=>by obtain⟨y,h1,h2,h3⟩:=AR (h.ig x be) hd;exact(jW.1 h.so).1 y h1 ((h.ig x be).eq (h.ig y (by simp[h1])) (h.mo x be) (h.mo y (by simp[h1])) h3)
def FL.FJ{c:Nat→Nat}(hc:∀m,c m≤1):∀{L:List (Rx×Nat)},FL L→∀{x:Rx×Nat},x∈L→c x.2=1→¬x.1∣bG (pF c L)
 |y::L,h,x,hx,h1,hd=>by
  have hy:=h.ig y be;rcases dC.1 hx with rfl|lT
  ·rw[pF,h1,Cu,vL]at hd;rcases hy.r6 (xk ((add_comm _ _).symm▸hd) (dvd_mul_right _ _))with e|e
   ·exact hy.FJ e
   ·exact h.aci e
  ·have ih:=FL.FJ hc h.tail lT h1;have hi:=h.ig x hx;by_cases e0:c y.2=0
   ·rw[pF,e0]at hd;exact ih (by rwa[show pk y.1 0=1 from ae,one_mul]at hd)
   ·have e1:c y.2=1:=by have:=hc y.2;omega
    rw[pF,e1,Cu,vL]at hd;rcases hi.r6 (xk hd (fl (FN lT af) _))with e|e
    ·exact(jW.1 h.so).1 x lT (hi.eq hy (h.mo x hx) (h.mo y be) e).symm
    ·exact ih e
def acj{c:Nat→Nat}(hc:∀m,c m≤1){Z:Rx}:∀{L:List (Rx×Nat)},FL L→(∀x∈L,c x.2=1→x.1∣Z)→pF c L∣Z
 |[],_,_=>⟨Z,(mul_one Z).symm⟩
 |y::L,h,hz=>by
  have ih:=acj hc h.tail (λx hx=>hz x kZ);rw[pF];by_cases e0:c y.2=0
  ·rw[e0,show pk y.1 0=1 from ae,one_mul];exact ih
  ·have e1:c y.2=1:=by have:=hc y.2;omega
   rw[e1,Cu];refine Co.Mw (AH (h.mo y be).ne λQ hQ h1 h2=>?_) (hz y be e1) ih;exact h.aci (dvd_trans (hQ.assoc (h.ig y be) h1) h2)
def ack:∀(n:Nat)(F:Rx),sz F<n→Mo F→∃L,FL L∧pF id L=F
 |0,_,h,_=>by omega
 |n+1,F,h,hF=>by
  have h0:=eP hF.ne;by_cases e:sz F=1
  ·exact⟨[],⟨by simp,by simp,by simp,.nil⟩,(hF.unit e).symm⟩
  ·obtain⟨Q,hQ,hd⟩:=AG _ F (fT _) af;obtain⟨c,hc,hm⟩:=T8 hQ.ne;have hq:=hQ.smul hc;have Ub:K c*Q∣F:=dvd_trans (hQ.assoc hq (dvd_mul_left _ _)) hd;generalize K c*Q=q at*;obtain⟨e,g,e1,e2⟩:=mult hq _ F (fT _) hF.ne;have he:1≤e:=by
    rcases wE e with e3|e3
    ·subst e3;rw[show pk q 0=1 from ae,one_mul]at e1;exact absurd (e1▸Ub) e2
    ·exact e3
   have hg:Mo g:=by rw[e1,mul_comm]at hF;exact hF.CP (hm.pk e)
   have h3:sz g<sz F:=by have h4:=eH (hm.pk e).ne hg.ne;rw[←e1]at h4;obtain⟨e',rfl⟩:∃e',e=e'+1:=⟨e-1,by omega⟩;have h5:=eH (hm.pk e').ne hm.ne;have h6:=eP (hm.pk e').ne;have h7:=hq.1;rw[show pk q (e'+1)=pk q e'*q from ae]at h4;omega
   obtain⟨L,h5,h6⟩:=ack n g af hg;refine⟨(q,e)::L,⟨?_,?_,?_,jW.2 ⟨λy hy e3=>?_,h5.so⟩⟩,?_⟩
   ·intro x hx;rcases dC.1 hx with rfl|hx
    ·exact hq
    ·exact h5.ig x hx
   ·intro x hx;rcases dC.1 hx with rfl|hx
    ·exact hm
    ·exact h5.mo x hx
   ·intro x hx;rcases dC.1 hx with rfl|hx
    ·exact he
    ·exact h5.pos x hx
   ·refine e2 ?_;rw[←h6];have e3:q=y.1:=e3;rw[e3];exact FN hy (h5.pos y hy)
   ·rw[pF,h6];exact e1.symm
structure Jd(D A B:Rx):Prop where
 mo:Mo D
 l:D∣A
 r:D∣B
 ex:∃U V,D=U*A+V*B
def kW(n:Nat):Nat→Nat:=λm=>if n≤m then 1 else 0
def kP(n:Nat):Nat→Nat:=λm=>if m=n then 1 else 0
def kG:Nat→Nat:=λm=>m-1
def Uc(n:Nat):∀m,kW n m≤1:=λm=>by unfold kW;split<;>omega
def FO(n:Nat):∀m,kP n m≤1:=λm=>by unfold kP;split<;>omega
def CR{n m:Nat}:kW n m=1↔n≤m:=by unfold kW;split<;>omega
def Nr{n m:Nat}:kP n m=1↔m=n:=by unfold kP;split<;>omega
def Ns(n:Nat)(L:List (Rx×Nat)):pF (kW n) L=pF (kP n) L*pF (kW (n+1)) L:=by rw[←FM];exact CQ λx _=>by unfold kW kP;split<;>split<;>split<;>omega
def Nt{L:List (Rx×Nat)}(h:FL L):pF id L=pF (kW 1) L*pF kG L:=by rw[←FM];exact CQ λx hx=>by have:=h.pos x hx;show x.2=kW 1 x.2+kG x.2;unfold kW kG;split<;>omega
def Yp(L:List (Rx×Nat))(n:Nat)(y:Rx):Prop:=∀x∈L,n≤x.2→x.1∣y-K ((x.2:Rat)-(n:Rat)+1)*bG (pF (kW n) L)
def acm:∀{L:List (Rx×Nat)},FL L→∃Y,bG (pF id L)=Y*pF kG L∧∀x∈L,x.1∣Y-K (x.2:Rat)*bG (pF (kW 1) L)
 |[],_=>⟨0,by rw[zero_mul];exact amV,λx hx=>by simp at hx⟩
 | (q,m)::L,h=>by
  obtain⟨Y,h1,h2⟩:=acm h.tail;have hm:1≤m:=h.pos (q,m) be;obtain⟨e,rfl⟩:∃e,m=e+1:=⟨m-1,by omega⟩;have eW:pF (kW 1) ((q,e+1)::L)=q*pF (kW 1) L:=by rw[pF,CR.2 af,Cu]
  have eG:pF kG ((q,e+1)::L)=pk q e*pF kG L:=rfl;have eE:pF id ((q,e+1)::L)=pk q e*q*pF id L:=rfl;refine⟨K ((e+1:Nat):Rat)*bG q*pF (kW 1) L+q*Y,?_,?_⟩
  ·rw[eE,eG,vL,h1,show pk q e*q=pk q (e+1)from ae,Iv,Nt h.tail,show pk q (e+1)=pk q e*q from ae,add_mul];ac_rfl
  ·intro x hx;rw[eW,vL];rcases dC.1 hx with rfl|hx
   ·refine⟨Y-K ((e+1:Nat):Rat)*bG (pF (kW 1) L),?_⟩;show K ((e+1:Nat):Rat)*bG q*pF (kW 1) L+q*Y-K ((e+1:Nat):Rat)*(bG q*pF (kW 1) L+q*bG (pF (kW 1) L))=_;rw[sub_mul];refine sub_eq ?_;rw[mul_add];have e1:Y*q-K ((e+1:Nat):Rat)*bG (pF (kW 1) L)*q+(K ((e+1:Nat):Rat)*(bG q*pF (kW 1) L)+K ((e+1:Nat):Rat)*(q*bG (pF (kW 1) L)))=(Y*q-K ((e+1:Nat):Rat)*bG (pF (kW 1) L)*q+K ((e+1:Nat):Rat)*bG (pF (kW 1) L)*q)+K ((e+1:Nat):Rat)*(bG q*pF (kW 1) L):=kN;rw[e1,l6];ac_rfl
   ·have h3:=h2 x hx;have h4:x.1∣pF (kW 1) L:=FN hx (by rw[CR.2 (h.pos x kZ)];omega);rw[mul_add,SA];refine dvd_add (dvd_sub (fl h4 _) (fl (fl h4 _) _)) ?_;have e1:q*Y-K (x.2:Rat)*(q*bG (pF (kW 1) L))=q*(Y-K (x.2:Rat)*bG (pF (kW 1) L)):=by rw[mul_sub];congr 1;ac_rfl
    rw[e1];exact fl h3 q
def AS{m:Nat}(h:m≠0):(m:Rat)≠0:=λe=>h (by exact_mod_cast e)
def amW{L:List (Rx×Nat)}(h:FL L){D:Rx}(hD:Jd D (pF id L) (bG (pF id L))):D=pF kG L∧∃Y,bG (pF id L)=Y*D∧Yp L 1 Y:=by
 obtain⟨Y,h1,h2⟩:=acm h;have hE:=Nt h;have oZ:Co (pF (kW 1) L) Y:=AH (vU h.mo).ne λQ hQ q1 q2=>by obtain⟨x,hx,h3,h4⟩:=AR hQ q1;have h5:=dvd_trans (hQ.assoc (h.ig x hx) h4) q2;have h6:=E3 (nL (h2 x hx)) h5;exact FL.FJ (Uc 1) h hx (CR.2 (h.pos x hx)) (T6 (AS (by have:=h.pos x hx;omega)) h6)
 obtain⟨U',V',Mx⟩:=oZ;obtain⟨d1,d2,d3,U,V,d4⟩:=hD;have e:D=pF kG L:=by
  refine d1.eq (vU h.mo) ?_ ?_
  ·have:pF kG L=U'*pF id L+V'*bG (pF id L):=by rw[hE,←hE,h1,←mul_assoc,hE,←mul_assoc,←add_mul,Mx,one_mul]
   rw[this];exact dvd_add (fl d2 _) (fl d3 _)
  ·rw[d4,h1];refine dvd_add (fl ?_ _) (fl (dvd_mul_left _ _) _);rw[hE];exact dvd_mul_left _ _
 refine⟨e,Y,by rw[e];exact h1,λx hx _=>?_⟩;rw[show(x.2:Rat)-((1:Nat):Rat)+1=(x.2:Rat)by show(x.2:Rat)-1+1=_;grind];exact h2 x hx
def amX{L:List (Rx×Nat)}(h:FL L){n:Nat}{y D:Rx}(hy:Yp L n y)(hD:Jd D (pF (kW n) L) (y-bG (pF (kW n) L))):D=pF (kP n) L∧∃y',y-bG (pF (kW n) L)=y'*D∧Yp L (n+1) y':=by
 have hz:∀x∈L,n≤x.2→x.1∣(y-bG (pF (kW n) L))-K ((x.2:Rat)-(n:Rat))*bG (pF (kW n) L):=λx hx hn=>by
  have h1:=hy x hx hn;rw[qQ,add_mul,l7,one_mul]at h1;have e:(y-bG (pF (kW n) L))-K ((x.2:Rat)-(n:Rat))*bG (pF (kW n) L)=y-(K ((x.2:Rat)-(n:Rat))*bG (pF (kW n) L)+bG (pF (kW n) L)):=by refine sub_eq ?_;refine sub_eq ?_;rw[add_assoc,l6]
  rw[e];exact h1
 have hP:pF (kP n) L∣y-bG (pF (kW n) L):=acj (FO n) h λx hx hc=>by have hn:=Nr.1 hc;have h1:=hz x hx af;rw[hn,Rat.sub_self,mK,zero_mul,sub_zero]at h1;exact h1
 obtain⟨d1,d2,d3,U,V,d4⟩:=hD;have e:D=pF (kP n) L:=by
  refine d1.eq (vU h.mo) ?_ ?_
  ·have oZ:Co D (pF (kW (n+1)) L):=AH d1.ne λQ hQ q1 q2=>by
    obtain⟨x,hx,h3,h4⟩:=AR hQ q2;have hn:n+1≤x.2:=CR.1 (by have:=Uc (n+1) x.2;omega);have h5:x.1∣y-bG (pF (kW n) L):=dvd_trans (hQ.assoc (h.ig x hx) h4) (dvd_trans q1 d3);have h6:=E3 (nL (hz x hx af)) h5;have h7:(x.2:Rat)-(n:Rat)≠0:=λe=>by
     have:(x.2:Rat)=(n:Rat):=by grind
     have:x.2=n:=by exact_mod_cast this
     omega
    exact FL.FJ (Uc n) h hx (CR.2 af) (T6 h7 h6)
   rw[Ns,mul_comm]at d2;exact oZ.dvd d2
  ·rw[d4];refine dvd_add (fl ?_ _) (fl hP _);rw[Ns];exact dvd_mul_right _ _
 obtain⟨y',HP⟩:=hP;refine⟨e,y',by rw[e];exact HP,λx hx hn=>?_⟩;have h1:=hz x hx af;rw[HP,Ns,vL,mul_add]at h1;have h4:x.1∣pF (kW (n+1)) L:=FN hx (by rw[CR.2 hn];omega);have h5:x.1∣pF (kP n) L*(y'-K ((x.2:Rat)-((n+1:Nat):Rat)+1)*bG (pF (kW (n+1)) L)):=by
  have e1:(x.2:Rat)-((n+1:Nat):Rat)+1=(x.2:Rat)-(n:Rat):=by rw[Pz];grind
  rw[e1,mul_sub];have h6:=dvd_add h1 (fl (fl h4 (bG (pF (kP n) L))) (K ((x.2:Rat)-(n:Rat))));have e2:y'*pF (kP n) L-(K ((x.2:Rat)-(n:Rat))*(bG (pF (kP n) L)*pF (kW (n+1)) L)+K ((x.2:Rat)-(n:Rat))*(pF (kP n) L*bG (pF (kW (n+1)) L)))+K ((x.2:Rat)-(n:Rat))*(bG (pF (kP n) L)*pF (kW (n+1)) L)=pF (kP n) L*y'-pF (kP n) L*(K ((x.2:Rat)-(n:Rat))*bG (pF (kW (n+1)) L)):=by
   refine Mq ?_;have e3:∀a b c:Rx,a-(b+c)+b+c=a:=λa b c=>by rw[add_assoc,l6]
   have e4:pF (kP n) L*(K ((x.2:Rat)-(n:Rat))*bG (pF (kW (n+1)) L))=K ((x.2:Rat)-(n:Rat))*(pF (kP n) L*bG (pF (kW (n+1)) L)):=kN;rw[e4,e3,mul_comm]
  rw[e2]at h6;exact h6
 rcases(h.ig x hx).r6 h5 with e1|e1
 ·obtain⟨z,Hj,wQ,Qn⟩:=AR (h.ig x hx) e1;have hzn:z.2=n:=Nr.1 (by have:=FO n z.2;omega);have hxz:x.1=z.1:=(h.ig x hx).eq (h.ig z Hj) (h.mo x hx) (h.mo z Hj) Qn;exact absurd hxz (λe5=>by
   have aR:x≠z:=λe6=>by subst e6;omega
   have hp:=h.so;exact FL.T9 hp hx Hj aR e5)
 ·exact e1
end Rx
def bO:Nat→Nat
 |0=>1
 |n+1=>(n+1)*bO n
def Je:∀n,0<bO n
 |0=>Nat.one_pos
 |n+1=>zG (Nat.succ_pos n) (Je n)
def vV:∀i j,ch (i+j) i*(bO i*bO j)=bO (i+j)
 |0,j=>by rw[eZ,tl,bO,jb,jb]
 |i+1,0=>by rw[kg,Ib,show bO 0=1 from ae,k9,jb]
 |i+1,j+1=>by
  have h1:=vV i (j+1);have h2:=vV (i+1) j;rw[show i+1+(j+1)=(i+(j+1))+1 by omega,ch,show bO (i+(j+1)+1)=(i+(j+1)+1)*bO (i+(j+1))from ae,fV];rw[show i+(j+1)=i+1+j by omega]at h1⊢;have e1:ch (i+1+j) i*(bO (i+1)*bO (j+1))=(i+1)*bO (i+1+j):=by rw[←h1,bO];ac_rfl
  have e2:ch (i+1+j) (i+1)*(bO (i+1)*bO (j+1))=(j+1)*bO (i+1+j):=by rw[←h2,show bO (j+1)=(j+1)*bO j from ae];ac_rfl
  rw[e1,e2,←fV,show i+1+(j+1)=i+1+j+1 by omega]
def sN(f:Nat→Nat):Nat→Nat
 |0=>0
 |k+1=>sN f k+f k
def acn{f g:Nat→Nat}:∀{k:Nat},(∀i,i<k→f i=g i)→sN f k=sN g k
 |0,_=>rfl
 |k+1,h=>by rw[sN,sN,acn (λi hi=>h i af),h k af]
def aco(f g:Nat→Nat):∀k,sN (λi=>f i+g i) k=sN f k+sN g k
 |0=>rfl
 |k+1=>by simp only[sN,aco f g k];omega
def Nu(f:Nat→Nat):∀k,sN f (k+1)=f 0+sN (λi=>f (i+1)) k
 |0=>by simp[sN]
 |k+1=>by rw[sN,Nu f k,sN];omega
def Ud(f:Nat):∀a k,ch (a+f) k=sN (λt=>ch a t*ch f (k-t)) (k+1)
 |0,k=>by
  rw[Nu,tl,jb,eZ,Bt];have:sN (λi=>ch 0 (i+1)*ch f (k-(i+1))) k=0:=by
   have e:∀k',sN (λi=>ch 0 (i+1)*ch f (k-(i+1))) k'=0:=λk'=>by
    induction k' with
    |zero=>rfl
    |succ n ih=>rw[sN,ih,Ax 0 (n+1) af,Bp]
   exact e k
  rw[this];rfl
 |a+1,0=>by rw[tl,sN,sN,tl,tl]
 |a+1,k+1=>by
  rw[show a+1+f=a+f+1 by omega,ch,Ud f a k,Ud f a (k+1),Nu (λt=>ch (a+1) t*ch f (k+1-t)),Nu (λt=>ch a t*ch f (k+1-t))];have e:sN (λi=>ch (a+1) (i+1)*ch f (k+1-(i+1))) (k+1)=sN (λi=>ch a i*ch f (k-i)) (k+1)+sN (λi=>ch a (i+1)*ch f (k+1-(i+1))) (k+1):=by
   rw[←aco];refine acn λi _=>?_
   rw[ch,fV,show k+1-(i+1)=k-i by omega]
  rw[e,tl,tl];omega
def AT{f:Nat→Int}{a:Nat}:∀{n:Nat},a<n→(∀i,i<n→i≠a→f i=0)→sm f n=f a
 |0,h,_=>by omega
 |n+1,h,hz=>by
  rw[sm];by_cases e:a=n
  ·subst e;rw[oe (λi hi=>hz i af af),Br]
  ·rw[AT (n:=n) af (λi hi=>hz i af),hz n af af,nq]
def acp(f:Nat→Nat):∀k,((sN f k:Nat):Int)=sm (λi=>((f i:Nat):Int)) k
 |0=>rfl
 |k+1=>by rw[sN,sm,xV,acp f k]
def uE(F:Nat→Nat→Int)(m:Nat):∀n,sm (λi=>sm (λj=>F i j) m) n=sm (λj=>sm (λi=>F i j) n) m
 |0=>(oe λ_ _=>rfl).symm
 |n+1=>by rw[sm,uE F m n,←Ck];rfl
def Nv{f:Nat→Int}:∀{n:Nat},(∀i,i<n→0≤f i)→0≤sm f n
 |0,_=>jB _
 |n+1,h=>by
  have h1:=Nv (f:=f) (n:=n) λi hi=>h i af
  have h2:=h n af;rw[sm];omega
def Jf{f g:Nat→Int}:∀{n:Nat},(∀i,i<n→f i≤g i)→sm f n≤sm g n
 |0,_=>jB _
 |n+1,h=>by
  have h1:=Jf (f:=f) (g:=g) (n:=n) λi hi=>h i af
  have h2:=h n af;rw[sm,sm];omega
def Nw{f:Nat→Int}{a n:Nat}(ha:a<n)(h:∀i,i<n→0≤f i):f a≤sm f n:=by
 have e:sm (λi=>if i=a then f a else 0) n=f a:=(AT ha λi _ hi=>aq hi).trans (aw ae);rw[←e];refine Jf λi hi=>?_
 split
 ·rename_i e;subst e;exact jB _
 ·exact h i hi
def s2(k l:Nat)(F:Nat→Nat→Int):Int:=sm (λa=>sm (λe=>F a e) (l+1)) (k+1)
def vW{k l:Nat}{F G:Nat→Nat→Int}(h:∀a e,a≤k→e≤l→F a e=G a e):s2 k l F=s2 k l G:=fZ λa ha=>fZ λe he=>h a e af af
def xD(k l:Nat)(c:Int)(F:Nat→Nat→Int):s2 k l (λa e=>c*F a e)=c*s2 k l F:=by unfold s2;rw[←uw];exact fZ λa _=>uw _ _ _
def Ue(k l:Nat)(c:Int)(F:Nat→Nat→Int):s2 k l (λa e=>F a e*c)=s2 k l F*c:=by rw[fh,←xD];exact vW λ_ _ _ _=>fh _ _
def Nx(k l k' l':Nat)(F:Nat→Nat→Nat→Nat→Int):s2 k l (λa e=>s2 k' l' (λt s=>F a e t s))=s2 k' l' (λt s=>s2 k l (λa e=>F a e t s)):=by
 unfold s2;have h1:∀a,sm (λe=>sm (λt=>sm (λs=>F a e t s) (l'+1)) (k'+1)) (l+1)=sm (λt=>sm (λs=>sm (λe=>F a e t s) (l+1)) (l'+1)) (k'+1):=λa=>by rw[uE];exact fZ λt _=>uE _ _ _
 rw[fZ λa _=>h1 a,uE];exact fZ λt _=>uE _ _ _
def amZ{k l:Nat}{F G:Nat→Nat→Int}(h:∀a e,a≤k→e≤l→F a e≤G a e):s2 k l F≤s2 k l G:=Jf λa ha=>Jf λe he=>h a e af af
def am0{k l:Nat}{F:Nat→Nat→Int}{a e:Nat}(ha:a≤k)(he:e≤l)(h:∀a e,a≤k→e≤l→0≤F a e):F a e≤s2 k l F:=by refine u7 (Nw (f:=λe=>F a e) (a:=e) (n:=l+1) af λi hi=>h a i ha af) ?_;exact Nw (f:=λa=>sm (λe=>F a e) (l+1)) (a:=a) (n:=k+1) af λi hi=>Nv λj hj=>h i j af af
def am1{k l:Nat}{F:Nat→Nat→Int}{a e:Nat}(ha:a≤k)(he:e≤l)(h:∀i j,i≤k→j≤l→¬(i=a∧j=e)→F i j=0):s2 k l F=F a e:=by unfold s2;rw[AT (a:=a) af λi hi aR=>oe λj hj=>h i j af af λhh=>aR hh.1];exact AT (f:=λe=>F a e) (a:=e) af λj hj aR=>h a j ha af λhh=>aR hh.2
def eta(t s a e:Nat):Int:=if t≤a∧s≤e∧a-t=e-s then((ch a t*ch e s*bO (a-t):Nat):Int)else 0
def acq{k l a e a' f:Nat}(ha:a≤k)(he:e≤l)(sM:a'≤k)(hf:f≤l):(if a+f=a'+e then((bO (a+f):Nat):Int)else 0)=s2 k l (λt s=>((bO t*bO s:Nat):Int)*(eta t s a e*eta t s a' f)):=by
 by_cases h:a+f=a'+e
 ·rw[aw h,h,←vV a' e,←h,Ud f a a',gi,acp];have e1:sm (λt=>((ch a t*ch f (a'-t):Nat):Int)) (a'+1)=sm (λt=>((ch a t*ch f (a'-t):Nat):Int)*(if t≤a' then 1 else 0)) (k+1):=by
   have e2:∀n,a'≤n→sm (λt=>((ch a t*ch f (a'-t):Nat):Int)*(if t≤a' then 1 else 0)) (n+1)=sm (λt=>((ch a t*ch f (a'-t):Nat):Int)) (a'+1):=λn hn=>by
    induction n with
    |zero=>
     have:a'=0:=af
     subst this
     exact fZ λi hi=>by rw[aw af,ns]
    |succ n ih=>
     by_cases e3:a'≤n
     ·rw[sm,ih e3,aq af,et,nq]
     ·have:a'=n+1:=by omega
      subst this;exact fZ λi hi=>by rw[aw af,ns]
   exact(e2 k sM).symm
  rw[e1,←R9];unfold s2;refine fZ λt ht=>?_
  by_cases h1:t≤a'∧t≤a∧a-t≤e
  ·obtain⟨h1,h2,h3⟩:=h1;rw[aw h1,ns];rw[AT (a:=e-(a-t)) af λs hs aR=>?_]
   ·have c1:t≤a∧e-(a-t)≤e∧a-t=e-(e-(a-t)):=by omega
    have c2:t≤a'∧e-(a-t)≤f∧a'-t=f-(e-(a-t)):=af;dsimp only;rw[eta,aw c1,eta,aw c2];have f1:=vV t (a-t);have f2:=vV (e-(a-t)) (a-t);have f3:=vV t (a'-t);have f4:=vV (e-(a-t)) (a'-t);have f5:=vV (a'-t) (e-(a-t));rw[show t+(a-t)=a by omega]at f1;rw[show e-(a-t)+(a-t)=e by omega]at f2;rw[show t+(a'-t)=a' by omega]at f3;rw[show e-(a-t)+(a'-t)=f by omega]at f4;rw[show a'-t+(e-(a-t))=f by omega]at f5;have key:ch a t*ch f (a'-t)*(bO a'*bO e)=bO t*bO (e-(a-t))*(ch a t*ch e (e-(a-t))*bO (a-t)*(ch a' t*ch f (e-(a-t))*bO (a'-t))):=by rw[←f3,←f2];have f6:ch f (a'-t)*(bO (a'-t)*bO (e-(a-t)))=ch f (e-(a-t))*(bO (e-(a-t))*bO (a'-t)):=f5.trans f4.symm;have e7:ch a t*ch f (a'-t)*(ch a' t*(bO t*bO (a'-t))*(ch e (e-(a-t))*(bO (e-(a-t))*bO (a-t))))=ch a t*ch a' t*bO t*ch e (e-(a-t))*bO (a-t)*(ch f (a'-t)*(bO (a'-t)*bO (e-(a-t)))):=kN;rw[e7,f6];ac_rfl
    rw[←gi,←gi,←gi,key]
   ·have:¬(t≤a∧s≤e∧a-t=e-s):=by omega
    dsimp only;rw[eta,aq this,kO,et]
  ·have z1:((ch a t*ch f (a'-t):Nat):Int)*(if t≤a' then 1 else 0)=0:=by
    by_cases h2:t≤a'
    ·by_cases h3:t≤a
     ·rw[Ax f (a'-t) af,KK];simp
     ·rw[Ax a t af,Bp];simp
    ·rw[aq h2,et]
   rw[z1,kO];refine(oe λs hs=>?_).symm;by_cases c1:t≤a∧s≤e∧a-t=e-s
   ·have:¬(t≤a'∧s≤f∧a'-t=f-s):=by omega
    dsimp only;rw[show eta t s a' f=0 by rw[eta,if_neg this],Int.mul_zero,Int.mul_zero]
   ·dsimp only;rw[eta,if_neg c1,Int.zero_mul,Int.mul_zero]
 ·rw[aq h];unfold s2;refine(oe λt ht=>oe λs hs=>?_).symm;by_cases c1:t≤a∧s≤e∧a-t=e-s
  ·have:¬(t≤a'∧s≤f∧a'-t=f-s):=by omega
   dsimp only;rw[show eta t s a' f=0 by rw[eta,if_neg this],Int.mul_zero,Int.mul_zero]
  ·dsimp only;rw[eta,if_neg c1,Int.zero_mul,Int.mul_zero]
def acr(t s:Nat):eta t s t s=1:=by rw[eta,aw af,Ib,Ib,iw];rfl
def CS(x:Int):0≤x*x:=by
 rcases Int.le_total 0 x with h|h
 ·exact jX h h
 ·have:=jX (a:= -x) (b:= -x) af af;rwa[Int.neg_mul_neg]at this
def am2(k l:Nat)(y:Nat→Nat→Int):
  s2 k l (λt s=>((bO t*bO s:Nat):Int)*((bO (k-t)*bO (l-s):Nat):Int)*(y t s*y t s))≤
  s2 k l (λa e=>s2 k l (λa' f=>y a e*y a' f*((if a+f=a'+e then((bO (a+f):Nat):Int)else 0)*(if(k-a)+(l-f)=(k-a')+(l-e)then((bO ((k-a)+(l-f)):Nat):Int)else 0)))):=by
 have e1:s2 k l (λa e=>s2 k l (λa' f=>y a e*y a' f*((if a+f=a'+e then((bO (a+f):Nat):Int)else 0)*(if(k-a)+(l-f)=(k-a')+(l-e)then((bO ((k-a)+(l-f)):Nat):Int)else 0))))=
   s2 k l (λt s=>s2 k l (λt' s'=>((bO t*bO s:Nat):Int)*((bO t'*bO s':Nat):Int)*(s2 k l (λa e=>y a e*(eta t s a e*eta t' s' (k-a) (l-e)))*s2 k l (λa e=>y a e*(eta t s a e*eta t' s' (k-a) (l-e)))))):=by
  have e2:∀a e,a≤k→e≤l→s2 k l (λa' f=>y a e*y a' f*((if a+f=a'+e then((bO (a+f):Nat):Int)else 0)*(if(k-a)+(l-f)=(k-a')+(l-e)then((bO ((k-a)+(l-f)):Nat):Int)else 0)))=s2 k l (λt s=>s2 k l (λt' s'=>((bO t*bO s:Nat):Int)*((bO t'*bO s':Nat):Int)*(y a e*(eta t s a e*eta t' s' (k-a) (l-e))*s2 k l (λa e=>y a e*(eta t s a e*eta t' s' (k-a) (l-e)))))):=by
   intro a e ha he;have e3:∀a' f,a'≤k→f≤l→y a e*y a' f*((if a+f=a'+e then((bO (a+f):Nat):Int)else 0)*(if(k-a)+(l-f)=(k-a')+(l-e)then((bO ((k-a)+(l-f)):Nat):Int)else 0))=s2 k l (λt s=>s2 k l (λt' s'=>((bO t*bO s:Nat):Int)*((bO t'*bO s':Nat):Int)*(y a e*(eta t s a e*eta t' s' (k-a) (l-e))*(y a' f*(eta t s a' f*eta t' s' (k-a') (l-f)))))):=by
    intro a' f sM hf;rw[acq ha he sM hf,acq (k:=k) (l:=l) (a:=k-a) (e:=l-e) (a':=k-a') (f:=l-f) af af af af,←Ue,←xD];refine vW λt s _ _=>?_
    rw[←xD,←xD];refine vW λt' s' _ _=>?_
    ac_rfl
   rw[vW e3,Nx];refine vW λt s _ _=>?_
   rw[Nx];refine vW λt' s' _ _=>?_
   rw[←xD,←xD]
  rw[vW e2,Nx]
  refine vW λt s _ _=>?_
  rw[Nx]
  refine vW λt' s' _ _=>?_
  rw[xD,Ue]
 rw[e1]
 refine amZ λt s ht hs=>?_
 refine u7 (Int.le_of_eq ?_) (am0 (k:=k) (l:=l) (a:=k-t) (e:=l-s) af af λt' s' _ _=>jX (jX (nU _) (nU _)) (CS _))
 have e4:s2 k l (λa e=>y a e*(eta t s a e*eta (k-t) (l-s) (k-a) (l-e)))=y t s:=by
  rw[am1 ht hs λi j hi hj aR=>?_]
  ·rw[acr,acr,ns,ns]
  ·by_cases c1:t≤i∧s≤j∧i-t=j-s
   ·have:¬(k-t≤k-i∧l-s≤l-j∧k-i-(k-t)=l-j-(l-s)):=by omega
    rw[show eta (k-t) (l-s) (k-i) (l-j)=0 by rw[eta,aq this],et,et]
   ·rw[eta,aq c1,kO,et]
 rw[e4]
def Bw(n:Nat)(A:Nat→Int):Int:=sm (λi=>((bO i*bO (n-i):Nat):Int)*(A i*A i)) (n+1)
def am3{A B:PS}{k l i:Nat}(hA:∀j,k<j→A j=0)(hB:∀j,l<j→B j=0):(A*B) i=s2 k l (λa f=>if a+f=i then A a*B f else 0):=by
 rw[PS.gW];unfold s2;have h1:∀a,a≤i→A a*B (i-a)=sm (λf=>if a+f=i then A a*B f else 0) (l+1):=λa ha=>by
  by_cases e:i-a≤l
  ·rw[AT (a:=i-a) af λf _ aR=>aq af,aw af]
  ·rw[hB (i-a) af,et];exact(oe λf hf=>aq af).symm
 rw[fZ λa ha=>h1 a af];have h2:∀n,(∀a,n≤a→sm (λf=>if a+f=i then A a*B f else 0) (l+1)=0)→∀d,sm (λa=>sm (λf=>if a+f=i then A a*B f else 0) (l+1)) (n+d)=sm (λa=>sm (λf=>if a+f=i then A a*B f else 0) (l+1)) n:=λn hn d=>by
  induction d with
  |zero=>rfl
  |succ d ih=>rw[←tO,sm,ih,hn _ af,nq]
 have z1:∀a,i+1≤a→sm (λf=>if a+f=i then A a*B f else 0) (l+1)=0:=λa ha=>oe λf _=>aq af
 have z2:∀a,k+1≤a→sm (λf=>if a+f=i then A a*B f else 0) (l+1)=0:=λa ha=>oe λf _=>by rw[hA a af,kO,ite_self]
 have h3:=h2 _ z1 (k+1);have h4:=h2 _ z2 (i+1);rw[←h3,←h4];congr 1;omega
def am4{A B:PS}{k l:Nat}(hA:∀j,k<j→A j=0)(hB:∀j,l<j→B j=0):Bw k A*Bw l B≤Bw (k+l) (A*B):=by
 have h1:=am2 k l (λa e=>A a*B e);have e1:s2 k l (λt s=>((bO t*bO s:Nat):Int)*((bO (k-t)*bO (l-s):Nat):Int)*(A t*B s*(A t*B s)))=Bw k A*Bw l B:=by
  unfold Bw s2;rw[←R9];refine fZ λt _=>?_
  rw[←uw];refine fZ λs _=>?_
  simp only[gi];ac_rfl
 rw[e1]at h1;refine u7 h1 (Int.le_of_eq ?_);have e2:Bw (k+l) (A*B)=s2 k l (λa f=>s2 k l (λa' e=>A a*B f*(A a'*B e)*(if a+f=a'+e then((bO (a+f)*bO (k+l-(a+f)):Nat):Int)else 0))):=by
  unfold Bw;have e3:∀i,i<k+l+1→((bO i*bO (k+l-i):Nat):Int)*((A*B) i*(A*B) i)=s2 k l (λa f=>s2 k l (λa' e=>A a*B f*(A a'*B e)*(if a+f=i then(if a'+e=i then((bO i*bO (k+l-i):Nat):Int)else 0)else 0))):=λi _=>by
   rw[am3 hA hB,←Ue,←xD];refine vW λa f _ _=>?_
   rw[←xD,←xD];refine vW λa' e _ _=>?_
   by_cases c1:a+f=i
   ·by_cases c2:a'+e=i
    ·rw[aw c1,aw c1,aw c2,aw c2,fh]
    ·rw[aq c2,aq c2,ite_self];simp only[et]
   ·rw[aq c1,aq c1,kO,et,et]
  rw[fZ e3];unfold s2;rw[uE];refine fZ λa ha=>?_
  rw[uE];refine fZ λf hf=>?_
  rw[uE];refine fZ λa' sM=>?_
  rw[uE];refine fZ λe he=>?_
  rw[uw];congr 1;rw[AT (a:=a+f) af λi _ aR=>aq λh=>aR h.symm,aw ae];by_cases c:a+f=a'+e
  ·rw[aw c.symm,aw c]
  ·rw[aq λh=>c h.symm,aq c]
 rw[e2];unfold s2;refine fZ λa ha=>?_
 have e4:∀(G:Nat→Nat→Nat→Int),sm (λe=>sm (λa'=>sm (λf=>G e a' f) (l+1)) (k+1)) (l+1)=sm (λf=>sm (λa'=>sm (λe=>G e a' f) (l+1)) (k+1)) (l+1):=λG=>by
  rw[uE];have e5:sm (λa'=>sm (λe=>sm (λf=>G e a' f) (l+1)) (l+1)) (k+1)=sm (λa'=>sm (λf=>sm (λe=>G e a' f) (l+1)) (l+1)) (k+1):=fZ λa' _=>uE _ _ _
  rw[e5,uE]
 rw[e4];refine fZ λf hf=>fZ λa' sM=>fZ λe he=>?_
 by_cases c:a+f=a'+e
 ·dsimp only;rw[aw c,aw af,aw c,←gi,show k-a+(l-f)=k+l-(a+f)by omega];ac_rfl
 ·dsimp only;rw[aq c,aq c,kO,et,et]
def acs{P:Nat→Prop}:∀n,P n→∃m,P m∧∀k,k<m→¬P k:=by
 intro n;induction n using Nat.strongRecOn with
 |ind n ih=>
  intro h
  by_cases e:∃k,k<n∧P k
  ·obtain⟨k,h1,h2⟩:=e;exact ih k h1 h2
  ·exact⟨n,h,λk hk hp=>e ⟨k,hk,hp⟩⟩
def am5{k:Nat}(h:2≤k):∃q,dN q∧q∣k:=by
 obtain⟨m,⟨h1,h2⟩,h3⟩:=acs (P:=λd=>2≤d∧d∣k) k ⟨h,Nat.dvd_refl k⟩;refine⟨m,⟨h1,λd hd qL hz=>?_⟩,h2⟩;have br:d<m:=by have:d*2≤d*d:=lJ d hd;omega
 exact h3 d br ⟨hd,PG (uT hz) h2⟩
def acu(f:Nat→Int):∀k,((sm f k:Int):Rat)=sq (λi=>(f i:Rat)) k
 |0=>rfl
 |k+1=>by rw[sm,sq,Rat.intCast_add,acu f k]
namespace Rx
def eI(A:Rx):Prop:=∀i,A i=((A i).num:Rat)
def nu(A:Rx):PS:=λi=>(A i).num
def eI.of{A:Rx}(h:∀i,∃z:Int,A i=(z:Rat)):eI A:=λi=>by obtain⟨z,hz⟩:=h i;rw[hz];rfl
def eI.at{A:Rx}(h:eI A)(i:Nat):A i=((nu A i:Int):Rat):=h i
def eI.mul'{A B:Rx}(hA:eI A)(hB:eI B)(i:Nat):(A*B) i=(((nu A*nu B) i:Int):Rat):=by rw[PS.gW,acu,gW];exact vS λj _=>by rw[hA.at,hB.at,jz]
def eI.mul{A B:Rx}(hA:eI A)(hB:eI B):eI (A*B):=eI.of λi=>⟨_,hA.mul' hB i⟩
def Ny{A B:Rx}(hA:eI A)(hB:eI B):nu (A*B)=nu A*nu B:=PS.ext λi=>by show((A*B) i).num=_;rw[hA.mul' hB i];rfl
def eI.K(z:Int):eI (K (z:Rat)):=eI.of λi=>by
 rw[tC];split
 ·exact⟨z,ae⟩
 ·exact⟨0,ae⟩
def Uf{A:Rx}{i:Nat}(h:sz A≤i):nu A i=0:=by show(A i).num=0;rw[oq h];rfl
def eI.sub{A B:Rx}(hA:eI A)(hB:eI B):eI (A-B):=eI.of λi=>⟨nu A i-nu B i,by rw[EU,hA.at,hB.at,PA]⟩
def Nz(r:Rat):((r.den:Nat):Rat)*r=(r.num:Rat):=by
 have h:=rC r;rw[WV,Rat.div_def,uU]at h;have h1:=oJ _ (AS (WM.1 r.den_pos));have h2:((r.den:Nat):Rat)*r=((r.den:Nat):Rat)*((r.num:Rat)*((r.den:Nat):Rat)⁻¹):=by rw[h]
 rw[h2];grind
def am6(A:Rx):∃D:Nat,0<D∧eI (K ((D:Nat):Rat)*A):=by
 have key:∀n,∃D:Nat,0<D∧∀i,i<n→∃z:Int,(D:Rat)*A i=(z:Rat):=by
  intro n;induction n with
  |zero=>exact⟨1,by decide,λi h=>absurd h af⟩
  |succ n ih=>
   obtain⟨D,h1,h2⟩:=ih
   refine⟨D*(A n).den,zG h1 (A n).den_pos,λi hi=>?_⟩
   by_cases e:i=n
   ·subst e;refine⟨(D:Int)*(A i).num,?_⟩;rw[jz,Bn,u4,Nz];rfl
   ·obtain⟨z,hz⟩:=h2 i af;refine⟨z*((A n).den:Int),?_⟩;rw[jz,←hz,Bn,uU];grind
 obtain⟨n,hn⟩:=A.fin;obtain⟨D,h1,h2⟩:=key n;refine⟨D,h1,eI.of λi=>?_⟩;rw[iE];by_cases e:i<n
 ·exact h2 i e
 ·exact⟨0,by rw[hn i af,jA];rfl⟩
structure Dn(A:Rx)(m:Nat):Prop where
 pos:0<m
 int:eI (K ((m:Nat):Rat)*A)
 dvd:∀d:Nat,eI (K ((d:Nat):Rat)*A)→m∣d
def Jg(A:Rx):∃m,Dn A m:=by
 obtain⟨D,h1,h2⟩:=am6 A;obtain⟨m,⟨h3,h4⟩,h5⟩:=acs (P:=λd=>0<d∧eI (K ((d:Nat):Rat)*A)) D ⟨h1,h2⟩;refine⟨m,h3,h4,λd hd=>?_⟩;refine uT (gE λaR=>?_);refine h5 (d%m) (iy _ h3) ⟨by omega,?_⟩;have e:K ((d%m:Nat):Rat)*A=K ((d:Nat):Rat)*A-K (((d/m:Nat):Int):Rat)*(K ((m:Nat):Rat)*A):=by
  have e1:((d:Nat):Rat)=((d/m:Nat):Rat)*((m:Nat):Rat)+((d%m:Nat):Rat):=by rw[←Bn,←Pz,ix,xU]
  rw[←mul_assoc,←gw,←sub_mul,←E5,e1,uU];congr 2;grind
 rw[e];exact hd.sub ((eI.K _).mul h4)
def Dn.acv{A:Rx}(hA:Mo A){m:Nat}(h:Dn A m){q:Nat}(hq:dN q):¬∀i,nu (K ((m:Nat):Rat)*A) i%(q:Int)=0:=λhz=>by
 have h2:=hq.1;obtain⟨n,hn⟩:=FK hA.ne;have ht:nu (K ((m:Nat):Rat)*A) n=(m:Int):=by show((K ((m:Nat):Rat)*A) n).num=_;rw[iE,hA.at hn,Bv];rfl
 have hd:q∣m:=Dz.1 (ht▸Dy (hz n));obtain⟨k,hk⟩:=hd;have gV:0<k:=by
  have:=h.pos;rcases wE k with e|e
  ·subst e;omega
  ·exact e
 have hI:eI (K ((k:Nat):Rat)*A):=eI.of λi=>by obtain⟨w,hw⟩:=Dy (hz i);refine⟨w,?_⟩;have h3:=h.int.at i;rw[hw,iE,hk,Bn,jz,uU]at h3;rw[iE];have h4:=oJ _ (AS (show q≠0 by omega));have h5:=ay (λx=>((q:Nat):Rat)⁻¹ *x) h3;rw[←u4,←u4,←u4,h4]at h5;rw[zI,zI]at h5;exact h5
 have:=rE gV (h.dvd k hI);have:2*k≤q*k:=eJ k h2;omega
def acw{P E:Rx}(hP:Mo P)(hE:Mo E){a b c:Nat}(ha:Dn P a)(hb:Dn E b)(hc:Dn (P*E) c):c=a*b:=by
 have hI:eI (K ((a:Nat):Rat)*P*(K ((b:Nat):Rat)*E)):=ha.int.mul hb.int;have e1:K ((a:Nat):Rat)*P*(K ((b:Nat):Rat)*E)=K ((a*b:Nat):Rat)*(P*E):=by rw[Bn,gw];ac_rfl
 obtain⟨k,hk⟩:=hc.dvd (a*b) (e1▸hI);by_cases gT:k=1
 ·subst gT;omega
 have kQ:=zG ha.pos hb.pos;have gV:0<k:=by
  rcases wE k with e|e
  ·subst e;omega
  ·exact e
 obtain⟨q,hq,yX⟩:=am5 (k:=k) af;have hz:∀i,(nu (K ((a:Nat):Rat)*P)*nu (K ((b:Nat):Rat)*E)) i%(q:Int)=0:=λi=>by have h1:=ha.int.mul' hb.int i;rw[e1,hk,Bn,gw,mul_comm (K _) (K _),mul_assoc,iE,hc.int.at i,←uU,←jz]at h1;rw[←DK.1 h1];exact Dx (KF (Dz.2 yX) (WW _ _))
 have dl:∀A:Rx,Dl (q:Int) (sz A) (nu A):=λA i hi=>by rw[Uf hi,dk]
 rcases Cs (dl (K ((a:Nat):Rat)*P))with h1|⟨d,_,d1,d2⟩
 ·exact absurd (λi=>by have:=h1.at i;rwa[PS.lZ,dk]at this) (ha.acv hP hq)
 rcases Cs (dl (K ((b:Nat):Rat)*E))with h1|⟨e,_,f1,f2⟩
 ·exact absurd (λi=>by have:=h1.at i;rwa[PS.lZ,dk]at this) (hb.acv hE hq)
 exact absurd (hz (d+e)) (Go.El.yG hq d2 f2 d1 f1)
def vX(n:Nat)(A:PS):Int:=sm (λi=>((A i).natAbs:Int)) (n+1)
def acx(f:Nat→Int):∀n,(∀i,0≤f i)→sm (λi=>f i*f i) n≤sm f n*sm f n
 |0,_=>by simp[sm]
 |n+1,h=>by
  have ih:=acx f n h;have h1:=Nv (f:=f) (n:=n) λi _=>h i
  have h2:=jX h1 (h n);rw[sm,sm,lK,px,px,fh (f n) (sm f n)];omega
def am7(n:Nat)(A:PS):Bw n A≤((bO n:Nat):Int)*(vX n A*vX n A):=by
 unfold Bw vX;have h1:=acx (λi=>((A i).natAbs:Int)) (n+1) (λ_=>nU _);refine u7 ?_ (jx h1 (nU _));rw[←uw];refine Jf λi hi=>?_
 have h2:bO i*bO (n-i)≤bO n:=by
  have h3:=vV i (n-i);rw[show i+(n-i)=n by omega]at h3;have h4:0<ch n i:=by
   rcases wE (ch n i)with e|e
   ·rw[e,Bp]at h3;have:=Je n;omega
   ·exact e
  rw[←h3];exact Nat.le_mul_of_pos_left _ h4
 have h5:((A i).natAbs:Int)*((A i).natAbs:Int)=A i*A i:=by rw[←gi,Int.natAbs_mul_self]
 rw[h5];exact jI (PN.2 h2) (CS _)
def acy(n:Nat):∀k,ch n k≤2^n:=by
 induction n with
 |zero=>
  intro k
  cases k with
  |zero=>exact bD _
  |succ k=>exact bK _
 |succ n ih=>
  intro k
  have h1:=nr (n:=n) (show 0<2 by decide)
  rw[jl]
  cases k with
  |zero=>rw[tl];omega
  |succ k=>
   have:=ih k
   have:=ih (k+1)
   rw[ch];omega
def am8{x y:Int}(hy:0≤y)(h:x*x≤y*y):(x.natAbs:Int)≤y:=by
 refine gE λhn=>?_
 have h1:((x.natAbs:Int))*x.natAbs=x*x:=by rw[←gi,Int.natAbs_mul_self]
 have h2:y<x.natAbs:=af;have h3:y*y<(x.natAbs:Int)*x.natAbs:=by have h4:=jx (a:=y) (show y≤(x.natAbs:Int)by omega) hy;have h5:=Ko h2 (show(0:Int)<x.natAbs by omega);omega
 omega
def acz{A B:PS}{k l:Nat}(hA:∀j,k<j→A j=0)(hB:∀j,l<j→B j=0)(hb:B l≠0)(i:Nat):((A i).natAbs:Int)≤2^(k+l)*vX (k+l) (A*B):=by
 have D0:0≤vX (k+l) (A*B):=Nv λ_ _=>nU _
 have cL:(0:Int)≤2^(k+l):=Bs (sI ak);by_cases hi:k<i
 ·rw[hA i hi];exact jX cL D0
 refine am8 (jX cL D0) ?_;have h1:=u7 (am4 hA hB) (am7 (k+l) (A*B));have h2:((bO l:Nat):Int)≤Bw l B:=by
  have:=Nw (f:=λi=>((bO i*bO (l-i):Nat):Int)*(B i*B i)) (a:=l) (n:=l+1) af λi _=>jX (nU _) (CS _)
  refine u7 ?_ this;rw[iw,show bO 0=1 from ae,k9];have h3:1≤B l*B l:=by have h4:=CS (B l);have h5:B l*B l≠0:=Py hb hb;omega
  have:=jx h3 (nU (bO l));rwa[ns]at this
 have h3:((bO i*bO (k-i):Nat):Int)*(A i*A i)≤Bw k A:=Nw (f:=λi=>((bO i*bO (k-i):Nat):Int)*(A i*A i)) (a:=i) (n:=k+1) af λi _=>jX (nU _) (CS _)
 have h4:((bO i*bO (k-i):Nat):Int)*(A i*A i)*((bO l:Nat):Int)≤((bO (k+l):Nat):Int)*(vX (k+l) (A*B)*vX (k+l) (A*B)):=by refine u7 ?_ h1;refine u7 (jx h2 (jX (nU _) (CS _))) ?_;exact jI h3 (u7 (nU _) h2)
 have h5:bO (k+l)=bO i*bO (k-i)*bO l*(ch (k+l) k*ch k i):=by have e1:=vV k l;have e2:=vV i (k-i);rw[show i+(k-i)=k by omega]at e2;rw[←e1,←e2];ac_rfl
 have h6:ch (k+l) k*ch k i≤2^(k+l)*2^(k+l):=my (acy _ _) (dF (acy _ _) (jV ak af));have hG:0<bO i*bO (k-i)*bO l:=zG (zG (Je _) (Je _)) (Je _);generalize vX (k+l) (A*B)=S at*;have h7:((bO i*bO (k-i)*bO l:Nat):Int)*(A i*A i)≤((bO i*bO (k-i)*bO l:Nat):Int)*((2^(k+l)*2^(k+l))*(S*S)):=by
  have e3:((bO i*bO (k-i)*bO l:Nat):Int)*(A i*A i)=((bO i*bO (k-i):Nat):Int)*(A i*A i)*((bO l:Nat):Int):=by rw[gi];ac_rfl
  rw[e3];refine u7 h4 ?_;rw[h5,gi,ke];refine jx ?_ (nU _);refine jI ?_ (CS S);have:=PN.2 h6;rw[gi (2^(k+l)),uX]at this;exact this
 have h8:=Int.le_of_mul_le_mul_left h7 (Int.natCast_pos.2 hG);refine u7 h8 (Int.le_of_eq ?_);ac_rfl
end Rx
end Go.El
namespace Go.El
open Go Go.Proofs
def acA{p t:Nat}(hp:2≤p)(ht:1≤t):(p-1)^2^t%p=1:=by
 obtain⟨s,rfl⟩:∃s,t=s+1:=⟨t-1,by omega⟩;rw[jl,ix,zH,DO];have e:(p-1)^2%p=1:=by obtain⟨m,rfl⟩:∃m,p=m+2:=⟨p-2,by omega⟩;rw[show m+2-1=m+1 by omega,Nat.pow_two,show(m+1)*(m+1)=1+(m+2)*m by simp only[fV,DN];omega,Nat.add_mul_mod_self_left];exact rD af
 rw[e,Nat.one_pow];exact rD af
set_option maxHeartbeats 2000000 in
def am9(p w:Nat)(iN:3≤p)(jM:p≤2147483647)(ni:p%2=1)(iU:w^(p-1)%p≠1)(GU:w<18446744073709551616):aG Tryz.prog 122 [cU p,cU w] (cB false):=by
 refine aX Tryz.func122 ae ae ae ae ae ak ?_;refine rr ae (rr ae ?_);refine Zj (α:=Nat×Nat) (λx=>⟨[(0,cU p),(1,cU w),(5,cU x.1),(6,cI x.2)],[],20,[]⟩) (λx=>x.1*2^x.2=p-1∧x.2<32∧x.1%2=1) ?_ (λje=>aH (bA (α:=Nat×Nat) (λx=>⟨[(0,cU p),(1,cU w),(5,cU x.1),(6,cI x.2)],[],4,[]⟩) (λx=>x.1*2^x.2=p-1∧0<x.1) (λx=>x.1) (p-1,0) ⟨by simp,by show 0<p-1;omega⟩ (wk ⟨sR ae,sR ae,sE ae ?_,sR ae,ah⟩ ah) ?_))
 ·rintro⟨o,t⟩ ⟨h1,h2,h3⟩;simp only at h1 h2 h3;have ht:1≤t:=by
   by_cases e:t=0
   ·subst e;simp at h1;omega
   ·omega
  have ho:o≤p-1:=by rw[←h1];exact Gu _ (nr ak)
  refine rb (rc ae ae (R1 w o p GU af af af) (re ae ?_));rw[Mf w o p af af];have hx:=iy (w^o) (show 0<p by omega);have hf:(w^o%p)^2^t%p≠1:=by rw[←DO,←zH,h1];exact iU
  generalize w^o%p=x at hx hf;have e1:IntKind.wrap .u64 ((p:Int)-1)=((p-1:Nat):Int):=by rw[wrap_u64 _ af af];omega
  refine aj (rb (rg 23 ae ae (λh=>?_) (λh=>?_)))
  ·exfalso;have h:(x:Int)=1:=eq_of_beq h;have h:x=1:=af;rw[h,Nat.one_pow,rD af]at hf;exact hf ae
  refine re ae (ax ae (λh4=>?_) (λh4=>aC (ai ?_)))
  ·exfalso;have h4:(x:Int)=IntKind.wrap .u64 ((p:Int)-1):=eq_of_beq h4;rw[e1]at h4;have h4:x=p-1:=af;exact hf (by rw[h4];exact acA af ht)
  refine aj (rr ae (aH (bA (α:=Nat×Nat) (λy=>⟨[(0,cU p),(7,cU y.2),(30,cI ((t:Int)-1)),(31,cI y.1)],[],30,[]⟩) (λy=>y.1≤t-1∧y.2<p∧y.2^2^(t-y.1)%p≠1) (λy=>t-1-y.1) (0,x) ⟨bK _,hx,hf⟩ bY ?_)));rintro⟨i,x⟩ ⟨g1,g2,g5⟩;simp only at g1 g2 g5;have qT:∀j,x^2^(j+1)%p=(x*x%p)^2^j%p:=by intro j;rw[←DO,←Nat.pow_two,←zH];congr 2;rw[jl,ix]
  refine rr ae (aj (ax ae (λh5=>?_) (λh5=>?_)))
  ·have h5:i<t-1:=by have h5:(i:Int)<(t:Int)-1:=a9 h5;omega
   have em:(IntKind.wrap .u64 ((x:Int)*(x:Int))).tmod (p:Int)=((x*x%p:Nat):Int):=H8 x x p g2 g2 af;have g6:(x*x%p)^2^(t-(i+1))%p≠1:=by rw[←qT,show t-(i+1)+1=t-i by omega];exact g5
   refine aC (ai (aj (aH (rr ae (hp:=aN) (rr ae (ax ae (λh6=>?_) (λh6=>aC (a6 (ai ?_)))))))))
   ·exfalso;have h6:(IntKind.wrap .u64 ((x:Int)*(x:Int))).tmod (p:Int)=IntKind.wrap .u64 ((p:Int)-1):=eq_of_beq h6;rw[em,e1]at h6;have h6:x*x%p=p-1:=af;exact g6 (by rw[h6];exact acA af af)
   ·refine rt ae (hp:=aN) (a8 (i+1,x*x%p) ⟨by show i+1≤t-1;omega,iy _ af,g6⟩ (by show t-1-(i+1)<t-1-i;omega) (wk ⟨sR ae,sE ae ?_,sR ae,sR ae,ah⟩ ah));exact ay (λz=>AV.c (C.I .u64 z)) em
  ·exact bh (bt (bq (bp (ai (rr ae (aF (aL ar ae (au.refl _))))))))
 ·refine ay (λz=>AV.c (C.I .u64 z)) ?_;show IntKind.wrap .u64 ((p:Int)-1)=((p-1:Nat):Int);rw[wrap_u64 _ af af];omega
 ·rintro⟨o,t⟩ ⟨h1,h2⟩;simp only at h1 h2;have Sj:t<32:=by
   by_cases e:t<32
   ·exact e
   ·have h5:2^32≤2^t:=jV ak af;have h6:1*2^t≤o*2^t:=eJ _ h2;omega
  have hob:o≤p-1:=by rw[←h1];exact Gu _ (nr ak)
  refine aj (rr ae (hp:=aN) (ax ae (λh=>?_) (λh=>?_)))
  ·have h:(o:Int).tmod 2=0:=eq_of_beq h;have e2:(o:Int).tmod 2=((o%2:Nat):Int):=lC o 2;refine aC (ai (aH (rr ae (hp:=aN) (rt ae (hp:=aN) (a6 (a8 (o/2,t+1) ⟨?_,by show 0<o/2;omega⟩ (by show o/2<o;omega) (wk ⟨sR ae,sR ae,sE ae ?_,sR ae,ah⟩ ah)))))))
   ·show o/2*2^(t+1)=p-1;rw[←h1,jl,ix (2^t) 2,←zC];congr 1;omega
   ·exact ay (λz=>AV.c (C.I .u64 z)) (Cj o af)
  ·have h:(o:Int).tmod 2≠0:=kU h;have e2:(o:Int).tmod 2=((o%2:Nat):Int):=lC o 2;exact bh (bt (bq (bp (nG (je (o,t) ⟨h1,Sj,by show o%2=1;omega⟩) bY))))
def am'(n p:Nat)(hn:n<p)(hp:p≤2147483647)(h0:∀m:Nat,n<m→m<p→aG Tryz.prog 60 [cU m] (cB false))(h1:aG Tryz.prog 60 [cU p] (cB true)):aG Tryz.prog 256 [cU n] (.t [(false,[.I .u64 p]),(false,[.I .i64 0])]):=by
 refine aX Tryz.func256 ae ae ae ae ae ak ?_;refine rr ae (aj (rr ae (ax ae (λh=>?_) (λh=>aC (ai ?_)))))
 ·exfalso;have h:(n:Int)≥2147483647:=a9 h;omega
 refine rr ae (aj (aH (bA (α:=Nat) (λm=>⟨[(0,cU m)],[],4,[]⟩) (λm=>n<m∧m≤p) (λm=>p-m) (n+1) ⟨fT n,hn⟩ (wk ⟨sE ae ?_,ah⟩ ah) ?_)))
 ·exact ay (λz=>AV.c (C.I .u64 z)) (show IntKind.wrap .u64 ((n:Int)+1)=((n+1:Nat):Int)from(wrap_u64 _ af af).trans af)
 rintro m ⟨g1,g2⟩;by_cases e:m=p
 ·subst e;refine aj (rb (rc ae ae h1 (re ae (ax ae (λh=>by cases h) (λ_=>?_)))));exact bh (bt (bq (bp (ai (rr ae (aF (aL ar ae (au.refl _))))))))
 ·refine aj (rb (rc ae ae (h0 m g1 af) (re ae (ax ae (λ_=>aC (ai (aH (rt ae (a6 (a8 (m+1) ⟨by omega,by omega⟩ (by show p-(m+1)<p-m;omega) (wk ⟨sE ae ?_,ah⟩ ah))))))) (λh=>by cases h)))));exact ay (λz=>AV.c (C.I .u64 z)) (show IntKind.wrap .u64 ((m:Int)+1)=((m+1:Nat):Int)from(wrap_u64 _ af af).trans af)
set_option maxHeartbeats 2000000 in
def ana(n:Nat)(EY:2<n)(hnm:n≤2147483647)(hw:n%2=0∨2^(n-1)%n≠1):aG Tryz.prog 60 [cU n] (cB false):=by
 refine aX Tryz.func60 ae ae ae ae ae ak ?_;refine rr ae (aj (rb (rg 7 ae ae (λh3=>?_) (λh3=>?_))))
 ·exfalso;have h3:(n:Int)<2:=a9 h3;omega
 refine re ae (ax ae (λh4=>?_) (λhb=>aC (ai ?_)))
 ·exact rr ae (aF (bS (aL ar ae (au.refl _))))
 refine aj (rb (rx ae ae ah (re ae ?_)));refine aH (bA (α:=Unit) (λ_=>⟨[(0,cU n),(11,.a [.I .u64 2,.I .u64 3,.I .u64 5,.I .u64 7]),(12,cI 0)],[],8,[]⟩) (λ_=>True) (λ_=>0) () ah bY ?_);rintro- -;refine rr ae (aj (ax ae (λ_=>aC (ai ?_)) (λh=>by cases h)));refine aj (aH (rb (rx ae ae ?_ (re ae (aj (rr ae (hp:=aN) ?_))))))
 ·exact⟨by show(0:Int)≤_;decide,by show(_:Int)<_;decide⟩
 refine ax ae (λh=>?_) (λh=>aC (ai ?_))
 ·refine rr ae (aF ?_);repeat(first|refine bS ?_|refine fq ?_|refine gU ?_)
  refine aL ar ae (au.of_eq (ay cB ?_));show((n:Int)==2)=false;exact beq_eq_false_iff_ne.2 af
 ·have h:(n:Int).tmod 2≠0:=kU h;have h8:(n:Int).tmod 2=((n%2:Nat):Int):=lC n 2;have ni:n%2=1:=af;have hw:2^(n-1)%n≠1:=by
   rcases hw with hw|hw
   ·omega
   ·exact hw
  refine rb (rc ae ae (am9 n 2 af hnm ni hw ak) (re ae (ax ae (λ_=>?_) (λh=>by cases h))));refine rr ae (aF ?_);repeat(first|refine bS ?_|refine fq ?_|refine gU ?_)
  exact aL ar ae (au.refl _)
def gJ:List Nat:=[1073741827,1073741831,1073741833,1073741839,1073741843,1073741857,1073741891,1073741909,1073741939,1073741953,1073741969,1073741971,
 1073741987,1073741993,1073742037,1073742053,1073742073,1073742077,1073742091,1073742113,1073742169,1073742203,1073742209,1073742223,
 1073742233,1073742259,1073742277,1073742289,1073742343,1073742353,1073742361,1073742391,1073742403,1073742463,1073742493,1073742517,
 1073742583,1073742623,1073742653,1073742667,1073742671,1073742673,1073742707,1073742713,1073742721,1073742731,1073742767,1073742773,
 1073742811,1073742851,1073742853,1073742881,1073742889,1073742913,1073742931,1073742937,1073742959,1073742983,1073743007,1073743037,
 1073743049,1073743051,1073743079,1073743091,1073743093,1073743123,1073743129,1073743141,1073743159,1073743163,1073743189,1073743199,
 1073743207,1073743243,1073743291,1073743303,1073743313,1073743327,1073743331,1073743337,1073743381,1073743387,1073743393,1073743397,
 1073743403,1073743417,1073743421,1073743427,1073743457,1073743459,1073743469,1073743501,1073743507,1073743513,1073743543,1073743577,
 1073743591,1073743633,1073743739,1073743757,1073743831,1073743861,1073743871]
def Jh:Nat→Nat→Nat
 |0,l=>l+1
 |d+1,l=>Jh d (2*l)*Jh d (2*l+1)
def Ug:∀(d l x:Nat),x<2^d→2^d*l+x+1∣Jh d l
 |0,l,x,h=>by have:x=0:=cq;subst this;rw[xY,jb,kg];exact Nat.dvd_refl _
 |d+1,l,x,h=>by
  rw[jl]at h⊢;by_cases e:x<2^d
  ·have:=Ug d (2*l) x e;rw[show 2^d*(2*l)=2^d*2*l by ac_rfl]at this;exact Nat.dvd_mul_right_of_dvd this _
  ·have:=Ug d (2*l+1) (x-2^d) af;rw[show 2^d*(2*l+1)+(x-2^d)=2^d*2*l+x by rw[DN,show 2^d*(2*l)=2^d*2*l by ac_rfl];omega]at this;exact Nat.dvd_mul_left_of_dvd this _
def yY(l:List Nat):Nat:=l.foldr (·*·) 1
def anb{l:List Nat}{x:Nat}(h:x∈l):x∣yY l:=by
 induction l with
 |nil=>cases h
 |cons y l ih=>
  rcases dC.1 h with rfl|h
  ·exact Nat.dvd_mul_right _ _
  ·exact Nat.dvd_mul_left_of_dvd (ih h) _
def anf:Nat.gcd (yY gJ) (Jh 15 0)=1:=fR
def ang:(gJ.all λp=>Nat.blt 1073741824 p&&Nat.blt p 1073743872)=true:=fR
def vY{p:Nat}(h:p∈gJ):1073741824<p∧p<1073743872:=by have:=wG.1 ang p h;rw[eX]at this;exact⟨cY this.1,cY this.2⟩
def NA{p:Nat}(h:p∈gJ):dN p:=by
 obtain⟨h1,h2⟩:=vY h;refine⟨by omega,λd hd Ji hz=>?_⟩;have h3:d≤32768:=by
  by_cases e:d≤32768
  ·exact e
  ·have:=my (show 32769≤d by omega) (show 32769≤d by omega);omega
 have h4:d∣Jh 15 0:=by have:=Ug 15 0 (d-1) (by show d-1<32768;omega);rwa[KK,eZ,show d-1+1=d by omega]at this
 have h5:d∣yY gJ:=PG (uT hz) (anb h);have h6:=Nat.dvd_gcd h5 h4;rw[anf]at h6;have:=rE ak h6;omega
end Go.El
namespace Go.El
def Uh:∀(b a:Nat)(f:Nat→Nat),b<a→(∀i,i<a→f i<b)→∃i j,i<j∧j<a∧f i=f j
 |0,a,f,h,hf=>absurd (hf 0 h) af
 |b+1,a,f,h,hf=>by
  by_cases e:∃i,i<a∧f i=b
  ·obtain⟨i0,h1,h2⟩:=e;by_cases e2:∃i,i<a∧i≠i0∧f i=b
   ·obtain⟨i1,h3,h4,h5⟩:=e2;rcases WQ h4 with h6|h6
    ·exact⟨i1,i0,h6,h1,by rw[h5,h2]⟩
    ·exact⟨i0,i1,h6,h3,by rw[h5,h2]⟩
   ·have aR:∀i,i<a→i≠i0→f i<b:=λi hi hn=>by
     have:=hf i hi;have:f i≠b:=λe=>e2 ⟨i,hi,hn,e⟩
     omega
    obtain⟨i,j,h3,h4,h5⟩:=Uh b (a-1) (λi=>if i<i0 then f i else f (i+1)) af λi hi=>by
     split
     ·exact aR i af af
     ·exact aR (i+1) af af
    refine⟨if i<i0 then i else i+1,if j<i0 then j else j+1,?_,?_,?_⟩
    ·split<;>split<;>omega
    ·split<;>omega
    ·split<;>split<;>simp_all
  ·exact Uh b a f af λi hi=>by
    have:=hf i hi;have:f i≠b:=λh'=>e ⟨i,hi,h'⟩
    omega
def acB{K:Nat}(hK:0<K):∀(C i j:Nat),i<K^C→j<K^C→(∀c,c<C→i/K^c%K=j/K^c%K)→i=j
 |0,i,j,hi,hj,_=>by rw[xY]at hi hj;omega
 |C+1,i,j,hi,hj,h=>by
  have h0:=h 0 af;rw[xY,Nat.div_one,Nat.div_one]at h0;have h1:=acB hK C (i/K) (j/K) (Pm (by rwa[jl,ix]at hi)) (Pm (by rwa[jl,ix]at hj)) λc hc=>by have:=h (c+1) af;rwa[jl,ix,←WE,←WE]at this
  rw[←xU i K,←xU j K,h0,h1]
def code(K:Nat)(v:Nat→Nat):Nat→Nat
 |0=>0
 |r+1=>code K v r+v r*K^r
def NB{K:Nat}(v:Nat→Nat):∀R,(∀r,r<R→v r<K)→code K v R<K^R
 |0,_=>Nat.one_pos
 |R+1,h=>by
  have h1:=NB v R λr hr=>h r af
  have h2:=eJ (K^R) (show v R+1≤K from h R af);rw[fV,jb]at h2;rw[code,jl,ix (K^R) K];omega
def acC{K:Nat}(v w:Nat→Nat):∀R,(∀r,r<R→v r<K)→(∀r,r<R→w r<K)→code K v R=code K w R→∀r,r<R→v r=w r
 |0,_,_,_,r,hr=>absurd hr af
 |R+1,hv,hw,h,r,hr=>by
  have h1:=NB v R λr hr=>hv r af
  have h2:=NB w R λr hr=>hw r af
  rw[code,code]at h;have pM:0<K^R:=af;have e1:v R=w R:=by
   have a1:(code K v R+v R*K^R)/K^R=v R:=by rw[Nat.add_mul_div_right _ _ pM,GG h1,eZ]
   have a2:(code K w R+w R*K^R)/K^R=w R:=by rw[Nat.add_mul_div_right _ _ pM,GG h2,eZ]
   rw[←a1,←a2,h]
  by_cases e:r=R
  ·rw[e];exact e1
  ·exact acC v w R (λr hr=>hv r af) (λr hr=>hw r af) (by rw[e1]at h;omega) r af
def acD{f:Nat→Int}{g:Nat→Nat}{X:Nat}:∀n,(∀i,i<n→(f i).natAbs≤g i*X)→(sm f n).natAbs≤sN g n*X
 |0,_=>by simp[sm]
 |n+1,h=>by
  have h1:=acD n λi hi=>h i af
  have h2:=h n af;rw[sm,sN,fV];omega
def acE(f g:Nat→Int):∀k,sm (λi=>f i-g i) k=sm f k-sm g k
 |0=>rfl
 |k+1=>by simp only[sm,acE f g k];omega
def anh(M:Nat→Nat→Int)(R W:Nat)(hW:∀r,r<R→sN (λc=>(M r c).natAbs) (R+1)≤W)(yJ:1≤W):
  ∃x:Nat→Int,(∃c,c<R+1∧x c≠0)∧(∀c,c<R+1→(x c).natAbs≤(2*W)^R)∧∀r,r<R→sm (λc=>M r c*x c) (R+1)=0:=by
 obtain⟨X,hX⟩:∃X,X=(2*W)^R:=⟨_,ae⟩
 let dg:Nat→Nat→Int:=λi c=>((i/(X+1)^c%(X+1):Nat):Int)
 have AD:∀i c,0≤dg i c∧dg i c≤X:=λi c=>by have:=iy (i/(X+1)^c) (show 0<X+1 by omega);show 0≤((i/(X+1)^c%(X+1):Nat):Int)∧((i/(X+1)^c%(X+1):Nat):Int)≤X;omega
 have vn:∀i r,r<R→(sm (λc=>M r c*dg i c) (R+1)).natAbs≤W*X:=λi r hr=>by refine dF (acD (g:=λc=>(M r c).natAbs) (X:=X) (R+1) λc _=>?_) (eJ X (hW r hr));rw[uZ];have:=AD i c;exact lJ _ af
 let v:Nat→Nat→Nat:=λi r=>(sm (λc=>M r c*dg i c) (R+1)+((W*X:Nat):Int)).toNat
 have hv:∀i r,r<R→v i r<2*W*X+1∧((v i r:Nat):Int)=sm (λc=>M r c*dg i c) (R+1)+((W*X:Nat):Int):=λi r hr=>by
  have h1:=vn i r hr;have e:v i r=(sm (λc=>M r c*dg i c) (R+1)+((W*X:Nat):Int)).toNat:=rfl;have e2:2*W*X=W*X+W*X:=by rw[zC,Nat.two_mul]
  generalize sm (λc=>M r c*dg i c) (R+1)=s at*;rw[e];omega
 have br:(2*W*X+1)^R<(X+1)^(R+1):=by
  have h1:2*W*X+1≤2*W*(X+1):=by rw[DN,k9];omega
  have h2:=GA h1 R;rw[Nat.mul_pow,←hX]at h2;have h3:X*(X+1)^R<(X+1)*(X+1)^R:=Wz af (nr af);rw[jl,ix ((X+1)^R)];omega
 obtain⟨i,j,h1,h2,h3⟩:=Uh _ _ (λi=>code (2*W*X+1) (v i) R) br λi _=>NB (v i) R λr hr=>(hv i r hr).1
 have h4:=acC (v i) (v j) R (λr hr=>(hv i r hr).1) (λr hr=>(hv j r hr).1) h3
 refine⟨λc=>dg i c-dg j c,?_,λc _=>?_,λr hr=>?_⟩
 ·refine gE λhn=>?_
  have:i=j:=acB (K:=X+1) af (R+1) i j af af λc hc=>by
   have h5:dg i c-dg j c=0:=gE λh5=>hn ⟨c,hc,h5⟩
   have h6:((i/(X+1)^c%(X+1):Nat):Int)-((j/(X+1)^c%(X+1):Nat):Int)=0:=h5;omega
  omega
 ·have a1:=AD i c;have a2:=AD j c;show(dg i c-dg j c).natAbs≤_;rw[←hX];omega
 ·have a1:=(hv i r hr).2;have a2:=(hv j r hr).2;have e:sm (λc=>M r c*(dg i c-dg j c)) (R+1)=sm (λc=>M r c*dg i c) (R+1)-sm (λc=>M r c*dg j c) (R+1):=by rw[←acE];exact fZ λc _=>KN _ _ _
  rw[e];rw[h4 r hr]at a1;omega
def CT(f g:PS)(n r c:Nat):Int:=if c<n then(if c≤r then f (r-c)else 0)else if c<2*n+1 then(if c-n≤r then g (r-(c-n))else 0)else(if r=0 then-1 else 0)
def acF(f:Nat→Int)(a:Nat):∀b,sm f (a+b)=sm f a+sm (λi=>f (a+i)) b
 |0=>by simp[sm]
 |b+1=>by rw[←tO,sm,acF f a b,sm];omega
def acG{f:Nat→Nat}{m:Nat}:∀n,(∀i,i<n→f i≤m)→sN f n≤n*m
 |0,_=>by simp[sN]
 |n+1,h=>by
  have h1:=acG n λi hi=>h i af
  have h2:=h n af;rw[sN,fV,jb];omega
def ani{f g:PS}{n:Nat}{B:Nat}(hB:1≤B)(hf:∀i,n+1<i→f i=0)(hg:∀i,n<i→g i=0)(bf:∀i,(f i).natAbs≤B)(bg:∀i,(g i).natAbs≤B):
  ∃(u v:PS)(D:Int),(∀i,n≤i→u i=0)∧(∀i,n+1≤i→v i=0)∧u*f+v*g=PS.K D∧D.natAbs≤(2*((2*n+2)*B))^(2*n+1)∧(D=0→v=0→u=0→False):=by
 obtain⟨x,⟨c0,h1,h2⟩,h3,h4⟩:=anh (CT f g n) (2*n+1) ((2*n+2)*B) (λr _=>acG _ λc _=>by
  unfold CT;split
  ·split
   ·exact bf _
   ·exact bK _
  ·split
   ·split
    ·exact bg _
    ·exact bK _
   ·split
    ·exact hB
    ·exact bK _) (by have:=my (show 1≤2*n+2 by omega) hB;omega)
 refine⟨λi=>if i<n then x i else 0,λi=>if i<n+1 then x (n+i)else 0,x (2*n+1),λi hi=>aq af,λi hi=>aq af,?_,h3 _ af,?_⟩
 ·refine PS.ext λr=>?_
  have e1:∀(h A:PS)(m k:Nat),(∀i,m≤i→A i=0)→(A*h) k=sm (λc=>(if c≤k then h (k-c)else 0)*A c) m:=λh A m k hA=>by
   rw[PS.gW];have a1:∀d,sm (λc=>(if c≤k then h (k-c)else 0)*A c) (k+1+d)=sm (λc=>(if c≤k then h (k-c)else 0)*A c) (k+1):=λd=>by
    induction d with
    |zero=>rfl
    |succ d ih=>rw[←tO,sm,ih,aq af,kO,nq]
   have a2:∀d,sm (λc=>(if c≤k then h (k-c)else 0)*A c) (m+d)=sm (λc=>(if c≤k then h (k-c)else 0)*A c) m:=λd=>by
    induction d with
    |zero=>rfl
    |succ d ih=>rw[←tO,sm,ih,hA _ af,et,nq]
   rw[←a2 (k+1),KH m,a1 m];exact fZ λc hc=>by rw[aw af,fh]
  rw[PS.fP,e1 f _ n r (λi hi=>aq af),e1 g _ (n+1) r (λi hi=>aq af)];by_cases hr:r<2*n+1
  ·have h5:=h4 r hr;rw[show 2*n+1+1=n+(n+1)+1 by omega,sm,acF]at h5;have e2:sm (λc=>CT f g n r c*x c) n=sm (λc=>(if c≤r then f (r-c)else 0)*(if c<n then x c else 0)) n:=fZ λc hc=>by rw[CT,aw hc,aw hc]
   have e3:sm (λi=>CT f g n r (n+i)*x (n+i)) (n+1)=sm (λc=>(if c≤r then g (r-c)else 0)*(if c<n+1 then x (n+c)else 0)) (n+1):=fZ λc hc=>by rw[CT,aq af,aw af,aw hc,Gv]
   rw[e2,e3,CT,aq af,aq af]at h5;rw[PS.K,show 2*n+1=n+(n+1)by omega];split at h5
   ·rename_i e;rw[aw e];omega
   ·rename_i e;rw[aq e];omega
  ·rw[PS.K,aq af,oe λc hc=>?_,oe λc hc=>?_]
   ·rfl
   ·split
    ·exact(ay (·*_) (hg _ af)).trans (kO _)
    ·rw[kO]
   ·split
    ·exact(ay (·*_) (hf _ af)).trans (kO _)
    ·rw[kO]
 ·intro hD hv hu;refine h2 ?_;by_cases c1:c0<n
  ·have:=congrFun hu c0;rwa[aw c1]at this
  ·by_cases c2:c0<2*n+1
   ·have:=congrFun hv (c0-n);rwa[aw af,show n+(c0-n)=c0 by omega]at this
   ·rw[show c0=2*n+1 by omega];exact hD
def acH{D:Nat}:∀{l:List Nat},l.Nodup→(∀p∈l,dN p∧p∣D)→yY l∣D
 |[],_,_=>Nat.one_dvd D
 |p::l,hn,h=>by
  obtain⟨h1,h2⟩:=Bm.1 hn;have ih:=acH h2 λq hq=>h q (by simp[hq])
  have hp:=(h p be).1;have hc:Nat.Coprime p (yY l):=hp.coprime λhd=>by
   have key:∀{l:List Nat},(∀q∈l,dN q∧q∣D)→p∣yY l→p∈l:=by
    intro l;induction l with
    |nil=>intro _ hd;have h5:=hp.1;have:=rE Nat.one_pos hd;omega
    |cons q l ih=>
     intro hl hd
     rcases hp.dvd_mul (a:=q) (b:=yY l) hd with e|e
     ·rcases(hl q be).1.xg e with e2|e2
      ·have h5:=hp.1;omega
      ·rw[e2];simp
     ·have:=ih (λr hr=>hl r (by simp[hr])) e;simp[this]
   exact h1 (key (λq hq=>h q (by simp[hq])) hd)
  exact hc.mul_dvd_of_dvd_of_dvd (h p be).2 ih
def anj:gJ.Nodup:=by
 have h:(gJ.zip (gJ.drop 1)).all (λx=>Nat.blt x.1 x.2)=true:=fR;have key:∀(l:List Nat),(l.zip (l.drop 1)).all (λx=>Nat.blt x.1 x.2)=true→l.Pairwise (·<·):=by
  intro l;induction l with
  |nil=>intro _;exact .nil
  |cons a l ih=>
   intro h
   cases l with
   |nil=>exact Pl _ _
   |cons b l=>
    have h:(((a,b)::((b::l).zip l)).all λx=>Nat.blt x.1 x.2)=true:=h
    rw[List.all_cons,eX]at h
    have i1:=ih h.2
    refine jW.2 ⟨λc hc=>?_,i1⟩
    have kQ:a<b:=cY h.1
    rcases dC.1 hc with e|e
    ·rw[e];exact kQ
    ·exact Nat.lt_trans kQ ((jW.1 i1).1 c e)
 exact(key gJ h).imp λh=>Nat.ne_of_lt h
def NC:Nat:=2^3089
def ank:Nat.ble (NC+1) (yY gJ)=true:=fR
def anl{a b:Nat}(h:Nat.ble (a+1) b=true):a<b:=Nat.lt_of_succ_le (cY h)
def anm:NC<yY gJ:=anl ank
def ann{D:Int}(h0:D≠0)(h:D.natAbs≤NC):∃p∈gJ,¬(p:Int)∣D:=gE λhn=>by
 have h1:=acH (D:=D.natAbs) anj λp hp=>⟨NA hp,Int.ofNat_dvd_left.1 (gE λhd=>hn ⟨p,hp,hd⟩)⟩
 have h2:=rE af h1;exact absurd h (Nat.not_le_of_lt (kv anm h2))
end Go.El
namespace Go.El
open Go Go.Proofs
def aG.a1{P:Program}{f:FuncId}{x y:AV}{xs:List AV}{r:AV}(h:aG P f (y::xs) r)(hle:au x y):aG P f (x::xs) r:=
 ⟨h.call,h.il,λH W vs hs hv=>h.spec H W vs hs (by obtain⟨v,r,rfl,h1,h2⟩:=hv;exact⟨v,r,ae,hle.1 _ _ h1,h2⟩)⟩
def FP(a:List Int)(m:Int)(b:List Int):List Int:=(List.range (max a.length b.length)).map λi=>a.getD i 0+m*b.getD i 0
def ano(f:Nat→Int)(i:Nat):(List.range (i+1)).map f=(List.range i).map f++[f i]:=by rw[qk,eh];rfl
set_option maxHeartbeats 1000000 in
def anp(a:List Int)(m:Int)(b:List Int)(u:Nat)(hu:u≤100000)(la:a.length≤1000)(lb:b.length≤1000)(ha:∀i,aW u (a.getD i 0))(hm:aW u m)(hb:∀i,0≤b.getD i 0∧b.getD i 0<4294967296):aG Tryz.prog 113 [cS .z a,aZ m,cS aM b] (cS .z (a7 (FP a m b))):=by
 refine aX Tryz.func113 ae ae ae ae ae ak ?_;generalize hM:max a.length b.length=M;have hMb:M≤1000:=af;have pX:FP a m b=(List.range M).map λi=>a.getD i 0+m*b.getD i 0:=by rw[FP,hM]
 rw[pX];refine rr ae (rb (yr .z [] ae ae (re ae (aj (rr ae ?_)))));refine aH (bA (α:=Nat) (λi=>⟨[(0,cS .z a),(2,cS aM b),(4,.c (.P 0 0)),(7,.c (.X 1000000)),(8,cI i)],[(0,.box 44 0 (av .z m)),(1000000,.vec 44 .z ((List.range i).map λi=>a.getD i 0+m*b.getD i 0))],3,[]⟩) (λi=>i≤M) (λi=>M-i) 0 (bK _) (wk ⟨sR ae,sR ae,sR ae,sR ae,sR ae,ah⟩ ⟨bE ae ae,bR ae,ah⟩) ?_);intro i hi;have hl:((List.range i).map λi=>a.getD i 0+m*b.getD i 0).length=i:=be;by_cases hiM:i<M
 ·refine yB ⟨[(0,cS .z a),(2,cS aM b),(4,.c (.P 0 0)),(7,.c (.X 1000000)),(8,cI i)],[(0,.box 44 0 (av .z m)),(1000000,.vec 44 .z ((List.range i).map λi=>a.getD i 0+m*b.getD i 0))],4,[]⟩ ?_ (λje=>rb (rg 14 ae ae (λh=>re ae (ax ae (λ_=>aC (nG je bY)) (λh2=>by cases h2))) (λh=>re ae (ax ae (λ_=>aC (nG je bY)) (λh2=>?_)))))
  ·have h2:=hb i;have uB:aW 1 (b.getD i 0):= .one af;refine aj (aH (cK ?_));refine rc ae ae (ajE a i) (rc ae ae (akq b i) (rc ae ae (Ch (b.getD i 0) af af) (hp:=aN) (rc ae ae (xb m (b.getD i 0) (hm.sm af) (uB.sm af)) (rc ae ae (YR (a.getD i 0) (m*b.getD i 0) ((ha i).sm af) ((hm.mul uB).sm af)) ?_))));refine rl .z [a.getD i 0+m*b.getD i 0] ae ae (ra ae ae ae ae ae ae ae ae ae ?_ ?_ (re ae ?_))
   ·show(_+1+(_+1)/4+192)*32≤_;omega
   ·show(_+1)*2≤_;omega
   refine a6 (ai (rt ae (a8 (i+1) hiM Gp (Wk.trans (wk (st':=⟨[(0,cS .z a),(2,cS aM b),(4,.c (.P 0 0)),(7,.c (.X 4013000)),(8,cI ((i+1:Nat):Int))],[(0,.box 44 0 (av .z m)),(4013000,.vec 44 .z ((List.range (i+1)).map λi=>a.getD i 0+m*b.getD i 0))],8,[]⟩) ⟨sR ae,sR ae,sR ae,sR ae,sR ae,ah⟩ ⟨bR ae,bE ae ?_,ah⟩) (Wk.trans (qI 1000000 4013000 ae ae ae) bY)))));exact ay (aK.vec 44 .z) (ano _ i).symm
  ·exfalso;have h:¬(i:Int)<(a.length:Int):=bC h;have h2:¬(i:Int)<(b.length:Int):=bC h2;omega
 ·have vp:i=M:=by omega
  subst vp;refine aj (rb (rg 14 ae ae (λh=>?_) (λh=>?_)))
  ·exfalso;have h:(i:Int)<(a.length:Int):=a9 h;omega
  ·refine re ae (ax ae (λh2=>?_) (λh2=>?_))
   ·exfalso;have h2:(i:Int)<(b.length:Int):=a9 h2;omega
   ·exact bh (bt (bq (bp (ai (fY 1000000 ae ae ae (rb (rc ae ae (ajF _) (re ae (aF (aL ar ae (au.refl _)))))))))))
def anr(m:Int)(b:List Int):FP [] m b=b.map (m*·):=by refine nV (by simp[FP]) (λi h1 h2=>?_);have h3:i<b.length:=gY;simp only[FP,sH,Bj];rw[aU (l:=b),cr h3];simp
def ans(b:List Int)(lb:b.length≤1000)(hb:∀i,0≤b.getD i 0∧b.getD i 0<4294967296):aG Tryz.prog 40 [cS aM b] (cS .z (a7 b)):=by refine aX Tryz.func40 ae ae ae ae ae ak ?_;have h:=anp [] 1 b 1 ak be lb (λi=>aW.zero 1) (.one ak) hb;rw[anr,show(λx:Int=>1*x)=id from funext λx=>ja x,List.map_id]at h;exact rr ae (rb (rc ae ae (Ch 1 ak ak) (rc ae ae (h.a1 (au.nil .z)) (re ae (aF (aL ar ae (au.refl _)))))))
def ft(a m:Int):Int:=if a%m+a%m>m then a%m-m else a%m
def acI{n:Nat}{a m:Int}(hm:0<m)(h:aW n m):aW n (ft a m):=by have h1:=gZ a (show m≠0 by omega);have h2:=iv a hm;unfold ft aW at*;split<;>omega
def acJ{a b:Int}:dz a b>0↔a>b:=by
 unfold dz;split
 ·omega
 ·split<;>omega
def acK{a b:Int}(h1:bN a=bN b)(h2:dc a=dc b):a=b:=by have h3:val (az a.natAbs)=val (az b.natAbs):=ay val h2;rw[ff,ff]at h3;have h4:=vz a;have h5:=vz b;rw[←h4,←h5,h1,show a.natAbs=b.natAbs by omega]
def ND{x y:Bool}:(x !=y)=true↔x≠y:=by cases x<;>cases y<;>decide
def acL(a b:Int)(ha:Sm a):aG Tryz.prog 32 [aZ a,aZ b] (cB (decide (a=b))):=by
 refine aX Tryz.func32 ae ae ae ae ae ak ?_;have ha:(dc a).length≤1099511627776:=ha;refine rr ae (aj (rb (rg 11 ae ae (λh=>?_) (λh=>?_))))
 ·have h:bN a≠bN b:=ND.1 h;refine re ae (ax ae (λ_=>rr ae (aF (bS (aL ar ae (au.of_eq (ay cB ?_)))))) (λh2=>by cases h2));rw[kC (λe=>h qh)]
 ·have h:bN a=bN b:=by
   have h:¬(bN a !=bN b)=true:=by rw[h];decide
   rw[ND]at h;exact Decidable.not_not.1 h
  refine re ae (ax ae (λh2=>?_) (λh2=>aC (ai ?_)))
  ·have h2:=oU h2;refine rr ae (aF (bS (aL ar ae (au.of_eq (ay cB ?_)))));rw[kC (λe=>h2 qh)]
  ·have h2:=oV h2;have hl:(dc a).length=(dc b).length:=af;refine aj (rr ae (aH (bA (α:=Nat) (λi=>⟨[(2,.c (.P 0 0)),(3,.c (.P 1000 0)),(5,cI i)],[(0,.box 44 0 (av .z a)),(1000,.box 44 0 (av .z b))],4,[]⟩) (λi=>i≤(dc a).length∧(dc a).take i=(dc b).take i) (λi=>(dc a).length-i) 0 ⟨bK _,by simp⟩ (wk ⟨sR ae,sR ae,sR ae,ah⟩ ⟨bE ae ae,bE ae ae,ah⟩) ?_)));rintro i ⟨hi,ht⟩;refine aj (rr ae (ax ae (λh3=>?_) (λh3=>?_)))
   ·have h3:i<(dc a).length:=by have h3:(i:Int)<((dc a).length:Int):=a9 h3;omega
    refine aC (ai (aj (aH (rr ae (hp:=aN) (ax ae (λh4=>?_) (λh4=>aC (a6 (ai ?_))))))))
    ·have h4:(dc a).getD i 0≠(dc b).getD i 0:=oU h4;refine rr ae (aF ?_);repeat(first|refine bS ?_|refine fq ?_|refine gU ?_)
     refine aL ar ae (au.of_eq (ay cB ?_));rw[kC (λe=>h4 qh)]
    ·have h4:(dc a).getD i 0=(dc b).getD i 0:=oV h4;exact rt ae (a8 (i+1) ⟨h3,by rw[pQ _ i h3,pQ _ i af,ht,h4]⟩ (by show(dc a).length-(i+1)<(dc a).length-i;omega) (wk ⟨sR ae,sR ae,sR ae,ah⟩ ⟨bE ae ae,bE ae ae,ah⟩))
   ·have h3:i=(dc a).length:=by have h3:¬(i:Int)<((dc a).length:Int):=bC h3;omega
    subst h3;rw[iK,lI af]at ht;refine bh (bt (bq (bp (ai (rr ae (aF (aL ar ae (au.of_eq (ay cB ?_)))))))));rw[oK (acK h ht)]
def ant(a b:List Int)(la:a.length≤1000000)(ha:∀i,Sm (a.getD i 0)):aG Tryz.prog 31 [cS .z a,cS .z b] (cB (decide (a=b))):=by
 refine aX Tryz.func31 ae ae ae ae ae ak ?_;refine rr ae (aj (rr ae (ax ae (λh=>?_) (λh=>aC (ai ?_)))))
 ·have h:=oU h;refine rr ae (aF (bS (aL ar ae (au.of_eq (ay cB ?_)))));rw[kC (λe=>h qh)]
 ·have h:=oV h;have hl:a.length=b.length:=af;refine aj (rr ae (aH (bA (α:=Nat) (λi=>⟨[(0,cS .z a),(1,cS .z b),(5,cI i)],[],4,[]⟩) (λi=>i≤a.length∧a.take i=b.take i) (λi=>a.length-i) 0 ⟨bK _,by simp⟩ bY ?_)));rintro i ⟨hi,ht⟩;refine aj (rr ae (ax ae (λh2=>?_) (λh2=>?_)))
  ·have h2:i<a.length:=by have h2:(i:Int)<(a.length:Int):=a9 h2;omega
   have hs:aG Tryz.prog 32 [.a (av .z (a.getD ((i:Int)).toNat 0)),.a (av .z (b.getD ((i:Int)).toNat 0))] (cB (decide (a.getD i 0=b.getD i 0))):=by rw[bu];exact acL _ _ (ha i)
   refine aC (ai (aj (aH (rb (rc ae ae hs (hp:=aN) (re ae (ax ae (λh3=>?_) (λh3=>aC (a6 (ai ?_))))))))))
   ·have h3:a.getD i 0≠b.getD i 0:=by intro e;have h3:(!decide (a.getD i 0=b.getD i 0))=true:=h3;rw[oK e]at h3;cases h3
    refine rr ae (aF ?_);repeat(first|refine bS ?_|refine fq ?_|refine gU ?_)
    refine aL ar ae (au.of_eq (ay cB ?_));rw[kC (λe=>h3 qh)]
   ·have h3:a.getD i 0=b.getD i 0:=by
     refine Decidable.byContradiction λe=>?_
     have h3:(!decide (a.getD i 0=b.getD i 0))=false:=h3;rw[kC e]at h3;cases h3
    exact rt ae (a8 (i+1) ⟨h2,by rw[pQ a i h2,pQ b i af,ht,h3]⟩ oF bY)
  ·have h2:i=a.length:=by have h2:¬(i:Int)<(a.length:Int):=bC h2;omega
   subst h2;rw[iK,lI af]at ht;refine bh (bt (bq (bp (ai (rr ae (aF (aL ar ae (au.of_eq (ay cB ?_)))))))));rw[oK ht]
def acM(a m:Int)(u:Nat)(hu:u≤100000)(ju:0<m)(ha:Sm a)(hm:aW u m):aG Tryz.prog 164 [aZ a,aZ m] (aZ (ft a m)):=by
 refine aX Tryz.func164 ae ae ae ae ae ak ?_;have hr:aW u (a%m):=aW.emod ju hm;refine rr ae (rb (rc ae ae (xe a m af ha (hm.sm af)) (re ae ?_)));refine aj (rb (rc ae ae (Av (a%m) (a%m) (hr.sm af) (hr.sm af)) (rc ae ae (LX (a%m+a%m) m) (re ae (ax ae (λh=>?_) (λh=>aC (ai ?_)))))))
 ·have h:dz (a%m+a%m) m>0:=a9 h;rw[acJ]at h;refine cK (rc ae ae (RV (a%m) m (hr.sm af) (hm.sm af)) (re ae (ai (rr ae (aF (aL ar ae (au.of_eq ?_)))))));rw[ft,aw h];rfl
 ·have h:¬dz (a%m+a%m) m>0:=bC h;rw[acJ]at h;refine rr ae (aF (aL ar ae (au.of_eq ?_)));rw[ft,aq h];rfl
def kq(a b:List Int)(i:Nat):Nat→List Int→List Int
 |0,r=>r
 |j+1,r=>(kq a b i j r).set (i+j) ((kq a b i j r).getD (i+j) 0+a.getD i 0*b.getD j 0)
def iF(a b:List Int):Nat→List Int
 |0=>List.replicate (a.length+b.length-1) 0
 |i+1=>kq a b i b.length (iF a b i)
def pY(a b:List Int)(m:Int):List Int:=(iF a b a.length).map (·%m)
def Jj(a b:List Int)(i:Nat)(r:List Int):∀j,(kq a b i j r).length=r.length
 |0=>rfl
 |j+1=>by rw[kq,gO,Jj a b i r j]
def Jk(a b:List Int):∀i,(iF a b i).length=a.length+b.length-1
 |0=>by simp[iF]
 |i+1=>by rw[iF,Jj,Jk a b i]
def ZB(u v c:Nat)(r:List Int):Prop:=∀k,(r.getD k 0).natAbs≤c*4294967296^(u+v)
def Ui{a b:List Int}{u v c:Nat}(ha:∀i,aW u (a.getD i 0))(hb:∀i,aW v (b.getD i 0)){i:Nat}{r:List Int}(h:ZB u v c r):∀j,(∀k,i+j≤k→(kq a b i j r).getD k 0=r.getD k 0)∧ZB u v (c+1) (kq a b i j r)
 |0=>⟨λk _=>rfl,λk=>dF (h k) (eJ _ (Nat.le_succ c))⟩
 |j+1=>by
  obtain⟨h1,h2⟩:=Ui (a:=a) (b:=b) ha hb (i:=i) h j;refine⟨λk hk=>?_,λk=>?_⟩
  ·rw[kq,aU,List.getElem?_set_ne af,←aU];exact h1 k af
  ·rw[kq];by_cases e:i+j<(kq a b i j r).length
   ·rw[mH _ _ _ _ e];split
    ·rw[h1 _ (bD _)];have h3:=h (i+j);have h4:=(ha i).mul (hb j);unfold aW at h4;have h5:=Int.natAbs_add_le (r.getD (i+j) 0) (a.getD i 0*b.getD j 0);rw[fV,jb];omega
    ·exact h2 k
   ·rw[List.set_eq_of_length_le af];exact h2 k
def Uj{a b:List Int}{u v:Nat}(ha:∀i,aW u (a.getD i 0))(hb:∀i,aW v (b.getD i 0)):∀i,ZB u v i (iF a b i)
 |0=>λk=>by rw[iF,aU,mU];split<;>simp
 |i+1=>by rw[iF];exact(Ui ha hb (Uj ha hb i) _).2
def ZB.sm{u v c:Nat}{r:List Int}(h:ZB u v c r)(hc:c<4294967296)(k:Nat):aW (u+v+1) (r.getD k 0):=by have h1:=h k;have hp:0<4294967296^(u+v):=nr ak;have h2:c*4294967296^(u+v)<4294967296*4294967296^(u+v):=Wz hc hp;unfold aW;rw[jl,ix (4294967296^(u+v))];omega
def NF{a b:List Int}{u v:Nat}(ha:∀i,aW u (a.getD i 0))(hb:∀i,aW v (b.getD i 0))(i:Nat)(hi:i≤1000)(k:Nat):aW (u+v+1) ((iF a b i).getD k 0):=(Uj ha hb i).sm af k
def acN{a b:List Int}{u v i:Nat}(ha:∀i,aW u (a.getD i 0))(hb:∀i,aW v (b.getD i 0))(hi:i≤1000)(_:∀k,aW (u+v+1) ((iF a b i).getD k 0))(j k:Nat):aW (u+v+1) ((kq a b i j (iF a b i)).getD k 0):=(Ui ha hb (Uj ha hb i) j).2.sm af k
def acO(a b:List Int)(i:Nat)(r:List Int):∀j,i+j≤r.length→ps (kq a b i j r)=ps r+PS.K (a.getD i 0)*PS.X i*ps (b.take j)
 |0,_=>by rw[kq,If,PS.mul_zero,PS.add_zero]
 |j+1,h=>by rw[kq,Mj _ (by rw[Jj];omega),EX,PS.mul_add,←PS.add_assoc,acO a b i r j af];congr 1;rw[show∀x y:Int,x+y-x=y by intros;omega];rw[PS.tk,PS.L'];ac_rfl
def acP(a b:List Int):∀i,i≤a.length→ps (iF a b i)=ps (a.take i)*ps b
 |0,_=>by rw[iF,So,If,PS.zero_mul]
 |i+1,h=>by have h2:=acO a b i (iF a b i) b.length (by rw[Jk];omega);rw[iK]at h2;rw[iF,h2,acP a b i af,EX,PS.add_mul]
def Uk(a b:List Int)(m:Int):Cg m (ps (pY a b m)) (ps a*ps b):=by have h:=acP a b a.length (bD _);rw[iK]at h;rw[←h];exact Mi m _
def CU(a b:List Int)(m:Int):(pY a b m).length=a.length+b.length-1:=by rw[pY,dM,Jk]
set_option maxHeartbeats 4000000 in
def anu(a b:List Int)(m:Int)(u v:Nat)(Ai:u+v≤100000)(la:a.length≤1000)(lb:b.length≤1000)(Ul:a≠[])(Um:b≠[])(ju:0<m)(ha:∀i,aW u (a.getD i 0))(hb:∀i,aW v (b.getD i 0))(hm:aW (u+v) m):
  nf Tryz.prog 161 [cS .z a,.c (.X 0),aZ m] 44 .z b (cS .z (pY a b m)) b:=by
 refine qJ Tryz.func161 ae ae ae ae ae ak ?_
 have pa:=cZ.2 Ul
 have pb:=cZ.2 Um
 have lA:∀i,(iF a b i).length=a.length+b.length-1:=Jk a b
 refine rr ae (rb (rm .z (a.length+b.length-1) ae ae ae ae ae ae (λg=>B0 g) af ?_ ?_ (re ae ?_)))
 ·show _*32≤_;omega
 ·show _*2≤_;omega
 refine aj (rr ae ?_)
 refine aH (bA (α:=Nat) (λi=>⟨[(0,cS .z a),(1,.c (.X 0)),(5,.c (.P 1000000 0)),(7,.c (.X 2006000)),(19,cI a.length),(20,cI i)],[(0,.vec 44 .z b),(1000000,.box 44 0 (av .z m)),(2006000,.vec 44 .z (iF a b i))],5,[]⟩) (λi=>i≤a.length) (λi=>a.length-i) 0 (bK _) (wk ⟨sR ae,sR ae,sR ae,sR ae,sR ae,sR ae,ah⟩ ⟨bR ae,bE ae ae,bR ae,ah⟩) ?_)
 ·intro i hi;refine rr ae (aj (ax ae (λh=>?_) (λh=>?_)))
  ·have h:i<a.length:=by have h:(i:Int)<(a.length:Int):=a9 h;omega
   refine aC (ai (aj (aH (rr ae (rr ae ?_)))));refine aH (bA (α:=Nat) (λj=>⟨[(0,cS .z a),(1,.c (.X 0)),(5,.c (.P 1000000 0)),(7,.c (.X 2006000)),(8,cI i),(19,cI a.length),(20,cI i),(24,cI b.length),(25,cI j)],[(0,.vec 44 .z b),(1000000,.box 44 0 (av .z m)),(2006000,.vec 44 .z (kq a b i j (iF a b i)))],8,[]⟩) (λj=>j≤b.length) (λj=>b.length-j) 0 (bK _) bY ?_);intro j hj;have qA:(kq a b i j (iF a b i)).length=a.length+b.length-1:=by rw[Jj,lA]
   refine rr ae (aj (ax ae (λh2=>?_) (λh2=>?_)))
   ·have h2:j<b.length:=by have h2:(j:Int)<(b.length:Int):=a9 h2;omega
    have yE:((i:Int)+(j:Int)).toNat=i+j:=af;have hz:=acN ha hb (i:=i) af (NF ha hb i af) j (i+j);have hmul:aG Tryz.prog 105 [.a (av .z (a.getD ((i:Int)).toNat 0)),.a (av .z (b.getD ((j:Int)).toNat 0))] (aZ (a.getD i 0*b.getD j 0)):=by rw[bu,bu];exact uu _ _ ((ha i).sm af) ((hb j).sm af)
    have pX:aG Tryz.prog 103 [.a (av .z ((kq a b i j (iF a b i)).getD ((i:Int)+(j:Int)).toNat 0)),aZ (a.getD i 0*b.getD j 0)] (aZ ((kq a b i j (iF a b i)).getD (i+j) 0+a.getD i 0*b.getD j 0)):=by rw[yE];exact Av _ _ (hz.sm af) (((ha i).mul (hb j)).sm af)
    refine aC (ai (aj (aH (rr ae (cK (rc ae ae hmul (hp:=aN) (rc ae ae pX (lV ((kq a b i j (iF a b i)).getD (i+j) 0+a.getD i 0*b.getD j 0) ae ae ae ae ae (by rw[qA];omega) (re ae ?_) (hp:=aN)))))))));refine a6 (ai (rt ae (a8 (j+1) h2 Pa (wk ⟨sR ae,sR ae,sR ae,sR ae,sR ae,sR ae,sR ae,sR ae,sR ae,ah⟩ ⟨bR ae,bR ae,bE ae ?_,ah⟩))));rw[kq,yE]
   ·have h2:j=b.length:=by have h2:¬(j:Int)<(b.length:Int):=bC h2;omega
    subst h2;exact bh (bt (bq (bp (a6 (ai (rt ae (a8 (i+1) h oF (wk ⟨sR ae,sR ae,sR ae,sR ae,sR ae,sR ae,ah⟩ ⟨bR ae,bR ae,bE ae ae,ah⟩))))))))
  ·have h:i=a.length:=by have h:¬(i:Int)<(a.length:Int):=bC h;omega
   subst h;have hZ:=NF ha hb a.length af;have hZl:=lA a.length;have CV:pY a b m=(iF a b a.length).map (·%m):=rfl;rw[CV];generalize iF a b a.length=Z at*;refine bh (bt (bq (bp (ai ?_))));refine aj (rr ae ?_);refine aH (bA (α:=Nat) (λi=>⟨[(1,.c (.X 0)),(5,.c (.P 1000000 0)),(7,.c (.X 2006000)),(52,cI Z.length),(53,cI i)],[(0,.vec 44 .z b),(1000000,.box 44 0 (av .z m)),(2006000,.vec 44 .z ((Z.map (·%m)).take i++Z.drop i))],12,[]⟩) (λi=>i≤Z.length) (λi=>Z.length-i) 0 (bK _) bY ?_);intro i hi;have Jl:((Z.map (·%m)).take i).length=i:=cT;have Un:((Z.map (·%m)).take i++Z.drop i).length=Z.length:=cT;have lW:((Z.map (·%m)).take i++Z.drop i).getD i 0=Z.getD i 0:=by rw[aU,zu af,Jl,iw,tM,kg,←aU]
   refine rr ae (aj (ax ae (λh=>?_) (λh=>?_)))
   ·have h:i<Z.length:=by have h:(i:Int)<(Z.length:Int):=a9 h;omega
    have qL:aG Tryz.prog 162 [.a (av .z (((Z.map (·%m)).take i++Z.drop i).getD ((i:Int)).toNat 0)),aZ m] (.t [(true,av .z (Z.getD i 0/m)),(true,av .z (Z.getD i 0%m)),(false,[.I .i64 0])]):=by rw[bu,lW];exact xe _ m af ((hZ i).sm af) (hm.sm af)
    refine aC (ai (aj (aH (rr ae (cK (rc ae ae qL (hp:=aN) (lV (Z.getD i 0%m) ae ae ae ae ae (by show(i:Int).toNat<_;rw[bu,Un];exact h) (re ae ?_) (hp:=aN))))))));refine a6 (ai (rt ae (a8 (i+1) h (by show Z.length-(i+1)<Z.length-i;omega) (wk ⟨sR ae,sR ae,sR ae,sR ae,sR ae,ah⟩ ⟨bR ae,bR ae,bE ae ?_,ah⟩))));refine ay (aK.vec 44 .z) ?_;rw[bu,pQ _ i (by simp;exact h),np,qi _ _ af,Jl,iw,oH h,DF,getD_map (dk m)];rfl
   ·have h:i=Z.length:=by have h:¬(i:Int)<(Z.length:Int):=bC h;omega
    subst h;rw[GI,kB,lI be];exact bh (bt (bq (bp (ai (fY 2006000 ae ae ae (rr ae (aF (uh ar ae (au.refl _) ae))))))))
def anw(a:List Int)(la:a.length≤1000)(h0:a≠[])(ha:∀i,Sm (a.getD i 0))(h1:a.getD (a.length-1) 0=1):aG Tryz.prog 90 [cS .z a] (cB true):=by
 refine aX Tryz.func90 ae ae ae ae ae ak ?_;have hl:=cZ.2 h0;refine rr ae (aj (rr ae (aH (bA (α:=Nat) (λi=>⟨[(0,cS .z a),(5,cS .z a),(6,cI a.length),(7,cI i)],[],2,[]⟩) (λi=>i≤a.length) (λi=>a.length-i) 0 (bK _) bY ?_))));intro i hi;refine rr ae (aj (ax ae (λh=>?_) (λh=>?_)))
 ·have h:i<a.length:=by have h:(i:Int)<(a.length:Int):=a9 h;omega
  have hv:aG Tryz.prog 157 [.a (av .z (a.getD ((i:Int)).toNat 0))] (cB true):=by rw[bu];exact akb _ (ha i)
  refine aC (ai (aj (aH (rr ae (hp:=aN) (rb (rc ae ae hv (re ae ?_)))))));refine ax ae (λh2=>by cases h2) (λ_=>aC (a6 (ai ?_)));exact rt ae (a8 (i+1) h oF bY)
 ·refine bh (bt (bq (bp (ai (rb (rg 18 ae ae (λh2=>?_) (λh2=>?_)))))))
  ·have e:aG Tryz.prog 149 [.a (av .z (a.getD (((a.length:Int)-1)).toNat 0)),aZ 1] (cI 0):=by have:=LX (a.getD (((a.length:Int)-1)).toNat 0) 1;rw[show((a.length:Int)-1).toNat=a.length-1 by omega,h1]at this⊢;exact this
   refine fj ae ae ae ae ae (oT 1 ak ak) (fj ae ae ae ae ae e (re ae (aF (aL ar ae (au.refl _)))) (hp:=aN)) (hp:=aN)
  ·exfalso;have h2:¬(a.length:Int)>0:=bC h2;omega
def CW(c:List Int):Nat→Int
 |0=>c.getD 0 0
 |i+1=>if c.getD (i+1) 0>CW c i then c.getD (i+1) 0 else CW c i
def anx(c:List Int)(p:Int)(lc:c.length≤1000)(h0:c≠[])(hc:rp p c):∃M:Int,0≤M∧M<p∧aG Tryz.prog 91 [cS aM c] (cU M):=by
 have hl:=cZ.2 h0;have hf:∀i,0≤CW c i∧CW c i<p:=by
  intro i;induction i with
  |zero=>exact hc 0
  |succ i ih=>
   rw[CW]
   split
   ·exact hc _
   ·exact ih
 refine⟨CW c (c.length-1),(hf _).1,(hf _).2,?_⟩;refine aX Tryz.func91 ae ae ae ae ae ak ?_;refine rr ae (aj (rr ae (ax ae (λh=>?_) (λh=>aC (ai ?_)))))
 ·exfalso;have h:(c.length:Int)<1:=a9 h;omega
 refine rr ae (hp:=aN) (aj (rr ae (aH (bA (α:=Nat) (λi=>⟨[(0,cS aM c),(3,cU (CW c i)),(4,cI ((i:Int)+1))],[],5,[]⟩) (λi=>i+1≤c.length) (λi=>c.length-i) 0 hl bY ?_))));intro i hi;refine aj (rr ae (ax ae (λh=>?_) (λh=>?_)))
 ·have h:i+1<c.length:=by have h:(i:Int)+1<(c.length:Int):=a9 h;omega
  refine aC (ai (aj (aH (rt ae (hp:=aN) (a6 (ai (rt ae (a8 (i+1) h (by show c.length-(i+1)<c.length-i;omega) (wk ⟨sR ae,sE ae ?_,sR ae,ah⟩ ah)))))))));refine ay (λz=>AV.c (C.I .u64 z)) ?_;rw[show((i:Int)+1).toNat=i+1 by omega];rfl
 ·have h:i=c.length-1:=by have h:¬(i:Int)+1<(c.length:Int):=bC h;omega
  subst h;exact bh (bt (bq (bp (ai (rr ae (aF (aL ar ae (au.refl _))))))))
def anz(a b:List Int)(la:a.length≤1000000):aG Tryz.prog 95 [cS aM a,cS aM b] (cB (decide (a=b))):=by
 refine aX Tryz.func95 ae ae ae ae ae ak ?_;refine rr ae (aj (rr ae (ax ae (λh=>?_) (λh=>aC (ai ?_)))))
 ·have h:=oU h;refine rr ae (aF (bS (aL ar ae (au.of_eq (ay cB ?_)))));rw[kC (λe=>h qh)]
 ·have h:=oV h;have hl:a.length=b.length:=af;refine aj (rr ae (aH (bA (α:=Nat) (λi=>⟨[(0,cS aM a),(1,cS aM b),(12,cI a.length),(13,cI i)],[],4,[]⟩) (λi=>i≤a.length∧a.take i=b.take i) (λi=>a.length-i) 0 ⟨bK _,by simp⟩ bY ?_)));rintro i ⟨hi,ht⟩;refine rr ae (aj (ax ae (λh2=>?_) (λh2=>?_)))
  ·have h2:i<a.length:=by have h2:(i:Int)<(a.length:Int):=a9 h2;omega
   refine aC (ai (aj (aH (rr ae (rr ae (hp:=aN) (ax ae (λh3=>?_) (λh3=>aC (a6 (ai ?_)))))))))
   ·have h3:a.getD i 0≠b.getD i 0:=oU h3;refine rr ae (aF ?_);repeat(first|refine bS ?_|refine fq ?_|refine gU ?_)
    refine aL ar ae (au.of_eq (ay cB ?_));rw[kC (λe=>h3 qh)]
   ·have h3:a.getD i 0=b.getD i 0:=oV h3;exact rt ae (a8 (i+1) ⟨h2,by rw[pQ a i h2,pQ b i af,ht,h3]⟩ oF bY)
  ·have h2:i=a.length:=by have h2:¬(i:Int)<(a.length:Int):=bC h2;omega
   subst h2;rw[iK,lI af]at ht;refine bh (bt (bq (bp (ai (rr ae (aF (aL ar ae (au.of_eq (ay cB ?_)))))))));rw[oK ht]
def dS(p:Nat)(l:Nat→List Int)(i:Nat):Nat→List Int
 |0=>[1]
 |j+1=>if j=i then dS p l i j else(bM (eD (dS p l i j) (l j) p) (l i) p).2
def fD(F:Nat→List Int)(m:Int):Nat→List Int
 |0=>[1]
 |j+1=>pY (fD F m j) (F j) m
def AU(a pr:List Int)(next q:Int):List Int:=(List.range a.length).map λi=>(a.getD i 0-pr.getD i 0)%next/q
def mi(p:Nat)(a:List Int)(r:Nat)(q:Int)(F:Nat→List Int):List Int:=a7 (md p (AU a (fD F (q*p) r) (q*p) q))
def nQ(p:Nat)(a:List Int)(l:Nat→List Int)(r:Nat)(q:Int)(F:Nat→List Int)(i:Nat):List Int:=(bM (eD (mi p a r q F) (kV p (dS p l i r) (l i)) p) (l i) p).2
def uF(F c:List Int)(q:Int)(t:Nat):List Int:=(List.range F.length).map λj=>if j<t then F.getD j 0+q*c.getD j 0 else F.getD j 0
def uG(F c:List Int)(q:Int):List Int:=uF F c q F.length
def cX(p:Nat)(a:List Int)(l:Nat→List Int)(r:Nat):Nat→Nat→List Int
 |0=>l
 |s+1=>λi=>uG (cX p a l r s i) (nQ p a l r ((p:Int)^(s+1)) (cX p a l r s) i) ((p:Int)^(s+1))
def AW(p:Nat)(a:List Int)(l:Nat→List Int)(r k:Nat):List (List Int):=(List.range r).map λi=>(cX p a l r (k-1) i).map (ft · ((p:Int)^k))
def uH(F c:List Int)(q:Int)(t:Nat):(uF F c q t).length=F.length:=by simp[uF]
def yZ(F c:List Int)(q:Int)(t j:Nat)(hj:j<F.length):(uF F c q t).getD j 0=if j<t then F.getD j 0+q*c.getD j 0 else F.getD j 0:=by unfold uF;rw[aU,kc,oI hj];rfl
def anA(F c:List Int)(q:Int):uF F c q 0=F:=by refine nV (uH F c q 0) (λj h1 h2=>?_);have:=yZ F c q 0 j h2;rw[aq af,aU,aU,cr h1,cr h2]at this;exact this
def xE{a b:List Int}(hl:a.length=b.length)(h:∀j,j<a.length→a.getD j 0=b.getD j 0):a=b:=by refine nV hl (λj h1 h2=>?_);have:=h j h1;rw[aU,aU,cr h1,cr h2]at this;exact this
def anB(F c:List Int)(q:Int)(t:Nat)(ht:t<F.length):(uF F c q t).set t (F.getD t 0+q*c.getD t 0)=uF F c q (t+1):=by
 refine xE (by rw[gO,uH,uH]) (λj hj=>?_);rw[gO,uH]at hj;rw[mH _ _ _ _ (by rw[uH];exact ht),yZ _ _ _ _ _ hj,yZ _ _ _ _ _ hj];by_cases e:t=j
 ·subst e;rw[aw be,aw af]
 ·by_cases e2:j<t
  ·rw[aq af,aw e2,aw af]
  ·rw[aq af,aq e2,aq af]
def anC{F c:List Int}(q:Int){t:Nat}(hc:c.length≤t):uF F c q t=uG F c q:=by
 refine xE (by rw[uG,uH,uH]) (λj hj=>?_);rw[uH]at hj;rw[uG,yZ _ _ _ _ _ hj,yZ _ _ _ _ _ hj,aw hj];split
 ·rfl
 ·rw[dH c af,et,nq]
structure tD(p:Nat)(l:Nat→List Int)(r:Nat):Prop where
 hp:dN p
 dp:p≤2147483648
 NG:r≤100
 c:∀i,i<r→bX p (l i)
 l2:∀i,i<r→2≤(l i).length
 FQ:∀i,i<r→(l i).length≤100
 xj:∀i,i<r→gy p (ps (dS p l i r)) (ps (l i))
section
variable{p:Nat}{l:Nat→List Int}{r:Nat}(h:tD p l r)
include h
def tD.ne{i:Nat}(hi:i<r):l i≠[]:=λe=>by have:=h.l2 i hi;rw[e]at this;simp at this
def tD.y5{i:Nat}(hi:i<r):∀j,j≤r→bX p (dS p l i j)∧(dS p l i j).length≤(l i).length-1
 |0,_=>by have h2:=h.hp.1;have:=h.l2 i hi;exact⟨⟨xi ak af,.inr (by simp[dS])⟩,by simp[dS];omega⟩
 |j+1,hj=>by
  rw[dS];split
  ·exact tD.y5 hi j af
  ·have ih:=tD.y5 hi j af;have cL:(0:Int)<(p:Int):=Pe;obtain⟨d1,d2,d3,d4,d5,d6⟩:=lD h.hp h.dp (nK cL (dS p l i j) (l j)).1 (h.c i hi) (h.ne hi);exact⟨d5 (nK cL _ _),d4⟩
def tD.inv{i:Nat}(hi:i<r):bX p (kV p (dS p l i r) (l i))∧(kV p (dS p l i r) (l i)).length≤(l i).length-1∧∃W,aY p W∧Cg p (ps (kV p (dS p l i r) (l i))*ps (dS p l i r)) (1+W*ps (l i)):=by have ho:=h.y5 hi r (bD _);have h2:=h.l2 i hi;obtain⟨z1,z2,z3,_⟩:=ZW h.hp h.dp ho.1 (h.c i hi) af (h.xj i hi) h2;exact⟨z1,z2,z3⟩
def tD.NH{i:Nat}(hi:i<r)(a:List Int)(q:Int)(F:Nat→List Int):bX p (mi p a r q F)∧(mi p a r q F).length≤a.length∧bX p (nQ p a l r q F i)∧(nQ p a l r q F i).length≤(l i).length-1:=by have cL:(0:Int)<(p:Int):=Pe;have hm:bX p (mi p a r q F):=nJ cL (Cp cL _);obtain⟨d1,d2,d3,d4,d5,d6⟩:=lD h.hp h.dp (nK cL (mi p a r q F) (kV p (dS p l i r) (l i))).1 (h.c i hi) (h.ne hi);refine⟨hm,?_,d5 (nK cL _ _),d4⟩;have:=vJ (md p (AU a (fD F (q*p) r) (q*p) q));rw[yF]at this;simp only[AU,dM,Bk]at this;exact this
def tD.st(a:List Int):∀(s i:Nat),i<r→(cX p a l r s i).length=(l i).length∧∀j,0≤(cX p a l r s i).getD j 0∧(cX p a l r s i).getD j 0<(p:Int)^(s+1)
 |0,i,hi=>by rw[GM];exact⟨ae,(h.c i hi).1⟩
 |s+1,i,hi=>by
  obtain⟨h1,h2⟩:=tD.st a s i hi;obtain⟨_,_,c1,_⟩:=h.NH hi a ((p:Int)^(s+1)) (cX p a l r s);have hq:(0:Int)<(p:Int)^(s+1):=sI Pe;have e0:cX p a l r (s+1) i=uF (cX p a l r s i) (nQ p a l r ((p:Int)^(s+1)) (cX p a l r s) i) ((p:Int)^(s+1)) (cX p a l r s i).length:=rfl;rw[e0];refine⟨by rw[uH,h1],λj=>?_⟩;by_cases e:j<(cX p a l r s i).length
  ·rw[yZ _ _ _ _ _ e,aw e];have h3:=h2 j;have h4:=c1.1 j;generalize (nQ p a l r ((p:Int)^(s+1)) (cX p a l r s) i).getD j 0=c at*;generalize (cX p a l r s i).getD j 0=x at*;have h5:=jX (Bs hq) h4.1;have h6:(p:Int)^(s+1)*(c+1)≤(p:Int)^(s+1)*p:=jx af (Bs hq);rw[px,ns]at h6;rw[fU (p:Int) (s+1)];omega
  ·rw[dH _ (by rw[uH];omega)];have hq2:(0:Int)<(p:Int)^(s+1+1):=sI Pe;omega
end
def acQ{p:Nat}(hp:p≤2147483648):∀k:Nat,aW (k+1) ((p:Int)^k)
 |0=>by unfold aW;simp
 |k+1=>by have h:=(acQ hp k).mul (aW.one (a:=(p:Int)) af);rwa[←fU]at h
def acR{F:Nat→List Int}{m:Int}:∀j,(∀i,i<j→1≤(F i).length)→1≤(fD F m j).length
 |0,_=>bD _
 |j+1,h=>by
  have h1:=acR (F:=F) (m:=m) j λi hi=>h i af
  have h2:=h j (fT j);rw[fD,CU];omega
def Uo{F G:Nat→List Int}{m m':Int}:∀j,(∀i,i<j→(F i).length=(G i).length)→(fD F m j).length=(fD G m' j).length
 |0,_=>rfl
 |j+1,h=>by rw[fD,CU,fD,CU,Uo j (λi hi=>h i af),h j (fT j)]
def Up(a b:List Int){m:Int}(hm:0<m)(k:Nat):0≤(pY a b m).getD k 0∧(pY a b m).getD k 0<m:=by rw[pY,getD_map (dk m)];exact⟨gZ _ af,iv _ hm⟩
def anD{F:Nat→List Int}{m:Int}(hm:1<m):∀j k,0≤(fD F m j).getD k 0∧(fD F m j).getD k 0<m
 |0,k=>by
  cases k with
  |zero=>exact⟨by show(0:Int)≤1;decide,hm⟩
  |succ k=>exact⟨jB _,by show(0:Int)<m;omega⟩
 |j+1,k=>Up _ _ af k
end Go.El
namespace Go.El
open Go Go.RowKit Go.Proofs
abbrev TP:ET:= .pr (.sl aM) aM
def jh(l:Nat→List Int)(r:Nat)(p:Int):List (List Int×Int):=(List.range r).map λi=>(l i,p)
def FR{α:Type}(f:Nat→α)(d:α){i r:Nat}(h:i<r):((List.range r).map f).getD i d=f i:=by rw[aU,kc,oI h];rfl
def acS(g:Gh):bU g (av TP (TP.eR)) ([ZV.s,ZV.i .u64].map ZV.gj):=bU.append (aiQ aM g) (lU .u64 g)
def jR(r i:Nat):List C:=(List.range i).map (λj=>C.X (1+j))++List.replicate (r-i) vN
def CY{r i K:Nat}(h:1+i≤K):∀j∈cD (jR r i),j<K:=SR λc hc id al=>by
 rcases b6.1 hc with h1|h1
 ·obtain⟨j,hj,rfl⟩:=nW.1 h1;have:=k7.1 hj;simp only[C.aD,jJ]at al;omega
 ·rw[Kr h1]at al;cases al
def anE(r:Nat):jR r r=(List.range r).map λj=>C.X (1+j):=by unfold jR;rw[iw];simp
def Uq(r i:Nat)(h:i≤r):(jR r i).length=r:=by unfold jR;simp;omega
def anF(r i:Nat)(h:i<r)(c:C):(jR r i).set i c=(List.range i).map (λj=>C.X (1+j))++c::List.replicate (r-(i+1)) vN:=by unfold jR;rw[qi _ _ be,show r-i=(r-(i+1))+1 by omega,wC];simp
def anG(r i:Nat)(h:i<r):(jR r i)[i]? =some vN:=by unfold jR;rw[zu be,dM,Bk,iw,mU,aw af]
def anH(r i:Nat)(h:i<r):(jR r i).set i (.X (1+i))=jR r (i+1):=by rw[anF r i h,jR,qk,eh];simp
def acT(l:List Int){j:Nat}(h:j<l.length):l.take j++[l.getD j 0]=l.take (j+1):=by rw[uV,aU,cr h];rfl
def mv(A B id:Nat):Nat:=cond (Nat.beq id A) B id
def uI{A B id:Nat}(h:id≠A):mv A B id=id:=by
 unfold mv;cases e:Nat.beq id A with
 |true=>exact absurd (DC e) h
 |false=>rfl
def NI(A B:Nat):mv A B A=B:=by unfold mv;rw[PJ];rfl
def Ur{α:Type}{A B:Nat}{m:List (Nat×α)}(hB:ao B m=none):∀id b9,(ao id m).isSome=true→(ao b9 m).isSome=true→mv A B id=mv A B b9→id=b9:=by
 intro a b ha hb h;by_cases e1:a=A
 ·by_cases e2:b=A
  ·omega
  ·subst e1;rw[NI,uI e2]at h;subst h;rw[hB]at hb;cases hb
 ·by_cases e2:b=A
  ·subst e2;rw[NI,uI e1]at h;subst h;rw[hB]at ha;cases ha
  ·rwa[uI e1,uI e2]at h
def mvl{A B id:Nat}{l:List (Nat×aK)}{v:aK}(h:id≠A)(e:ao id l=some v):ao (mv A B id) l=some v:=by rwa[uI h]
def anI{α:Type}{t k:Nat}{l:List (Nat×α)}(h:t≠k):ao k (wR t l)=ao k l:=by rw[Hk,aq h]
def Us{r:Nat}{E:TypeId}{T:ET}{f:Nat→List T.den}{id:Nat}(h:r<id):ao id (gA r E T f)=none:=by
 cases e:ao id (gA r E T f)with
 |none=>rfl
 |some b=>obtain⟨i,h1,h2,_⟩:=MB e;omega
def acV{α:Type}{f:α→α}:∀{l:List α},(∀x∈l,f x=x)→l.map f=l
 |[],_=>rfl
 |x::l,h=>by rw[jL,h x be,acV λy hy=>h y oG]
def Ut{r i A B:Nat}(h:i<A):(jR r i).map (oj (mv A B))=jR r i:=acV λc hc=>by
 rcases b6.1 hc with h1|h1
 ·obtain⟨j,hj,rfl⟩:=nW.1 h1;have:=k7.1 hj;show C.X (mv A B (1+j))=_;rw[uI af]
 ·rw[Kr h1];rfl
def NJ{α β:Type}(f:α→β)(c:α):∀(l:List α)(i:Nat),(l.set i c).map f=(l.map f).set i (f c)
 |[],_=>rfl
 |_::_,0=>rfl
 |x::l,i+1=>by rw[Ky,jL,jL,Ky,NJ f c l i]
def acW{c:C}{id:Nat}(al:id∈c.aD):∀{cs:List C},c∈cs→id∈cD cs
 |d::cs,h=>by
  rcases dC.1 h with e|e
  ·subst e;exact fS _ al
  ·exact j9 _ (acW al e)
def acX{r i K q:Nat}(h:1+i≤K)(hq:q<K):∀j∈cD ((jR r i).set i (.X q)),j<K:=SR λc hc id al=>by
 rcases List.mem_or_eq_of_mem_set hc with h1|h1
 ·exact CY h id (acW al h1)
 ·subst h1;simp only[C.aD,jJ]at al;omega
def ot(p:Nat)(l:Nat→List Int)(r i:Nat):List (List Int×Int):=(List.range i).map (λj=>(kV p (dS p l j r) (l j),(p:Int)))++List.replicate (r-i) ([],0)
def anJ(p:Nat)(l:Nat→List Int)(r i:Nat)(h:i<r):(ot p l r i).set i (kV p (dS p l i r) (l i),(p:Int))=ot p l r (i+1):=by unfold ot;rw[qi _ _ be,show r-i=(r-(i+1))+1 by omega,wC,qk,eh];simp
def Uu(p:Nat)(l:Nat→List Int)(r i:Nat)(h:i≤r):(ot p l r i).length=r:=by unfold ot;simp;omega
def anK(p:Nat)(l:Nat→List Int)(r:Nat){i:Nat}(h:i<r):(ot p l r r).getD i ([],0)=(kV p (dS p l i r) (l i),(p:Int)):=by unfold ot;rw[iw,wD,kB,FR _ _ h]
abbrev Jm(l:Nat→List Int)(xs:List (List Int×Int))(cs:List C)(ex:List (Nat×aK))(i:Nat):List (Nat×aK):=(1002000,.box 57 0 cs)::(2002000,.vec 101 TP xs)::(ex++gA i 44 .z l)
def AX{l:Nat→List Int}{xs:List (List Int×Int)}{cs:List C}{ex:List (Nat×aK)}{i K:Nat}(dQ:∀j∈cD cs,j<K)(hex:eQ K ex)(h:i≤100)(hK:3000000≤K):eQ K (Jm l xs cs ex i):=
 .cons af dQ (.cons af (λj hj=>by cases hj) (.app hex (.gA af)))
abbrev anL(l:Nat→List Int)(xs:List (List Int×Int))(r i:Nat):Nat→List (Nat×aK)
 |0=>Jm l xs (jR r i) [] i
 |j+1=>Jm l xs ((jR r i).set i (.X 900000)) [(900000,.vec 44 .z ((l i).take (j+1)))] i
set_option maxHeartbeats 4000000 in
def anM{Q:fG}{p:Nat}{l:Nat→List Int}{r:Nat}(H:tD p l r)(a:List Int)(k:Nat)(y:Code)
  (rest:TR Tryz.prog 231 y ⟨[(0,cS .z a),(1,cS TP (jh l r p)),(2,cU p),(3,cI k),(9,.c (.L 1002000 0 r (some r))),(10,.c (.X 2002000))],[(2002000,.vec 101 TP (ot p l r r))]++fg 1002000 57 r 44 .z l,5,[]⟩ Q) {c0 c1 c2 c3:Code} (hc:Tryz.f97.body=some (.seq c0 (.seq c1 (.seq c2 (.seq c3 y))))):
  TR Tryz.prog 231 (.seq c0 (.seq c1 (.seq c2 (.seq c3 y)))) ⟨ls 0 [cS .z a,cS TP (jh l r p),cU p,cI k],[],0,[]⟩ Q:=by
 generalize hz:y=z at rest⊢
 cases hc
 clear hz
 have hr:=H.NG
 have h2:=H.hp.1
 have dp:=H.dp
 have FT:(jh l r p).length=r:=by simp[jh]
 have yz:∀i,i<r→(jh l r p).getD i ([],0)=(l i,(p:Int)):=λi hi=>FR _ _ hi
 refine rr ae (rb ?_)
 refine rk 2 ae ae (aaj ar r (hx:=ay (λz:Nat=>some (cI (z:Int))) FT) ae ae ae ak (by show r*24≤_;omega) af (re ae ?_))
 refine rb (rm TP r ae ae ae ae ae ae acS (by rw[FT]) ?_ ?_ (re ae ?_))
 ·show _*32≤_;omega
 ·show _*2≤_;omega
 refine yB _ rest (λje=>rr ae (aH (bA (α:=Nat) (λi=>⟨[(0,cS .z a),(1,cS TP (jh l r p)),(2,cU p),(3,cI k),(9,.c (.L 1002000 0 r (some r))),(10,.c (.X 2002000)),(43,cS TP (jh l r p)),(44,cI r),(45,cI i)],Jm l (ot p l r i) (jR r i) [] i,4,[]⟩) (λi=>i≤r) (λi=>r-i) 0 (bK _) ?_ ?_)))
 ·refine IB ⟨sR ae,sR ae,sR ae,sR ae,sR ae,sR ae,sR ae,⟨_,ae,au.of_eq (ay (λz:Nat=>cI (z:Int)) FT)⟩,sR ae,ah⟩ ⟨bE ae ?_,bE ae ?_,ah⟩ (AX (CY (by show 1+0≤1000000*4;decide)) .nil af (by show 3000000≤1000000*4;decide))
  ·exact ay (aK.box 57 0) (S3 vN r)
  ·rfl
 intro i hi
 refine rr ae (aj (ax ae (λh=>?_) (λh=>?_)))
 ·have h:i<r:=by have h:(i:Int)<(r:Int):=a9 h;omega
  have rf:=H.c i h;have ES:=H.FQ i h;have qA:=H.l2 i h;have cL:(0:Int)<(p:Int):=af;have anN:aG Tryz.prog 125 [.a (av TP ((jh l r p).getD ((i:Int)).toNat ([],0))),cU 1] (aP [1] p):=by rw[bu,yz i h];exact AA (l i) 1 p cL af ak af
  refine aC (ai (aj (aH (rr ae (rb (rc ae ae anN (re ae ?_)))))));refine aj (rr ae (aH (bA (α:=Nat) (λj=>⟨[(0,cS .z a),(1,cS TP (jh l r p)),(2,cU p),(3,cI k),(9,.c (.L 1002000 0 r (some r))),(10,.c (.X 2002000)),(11,cI i),(12,.c (.P 5003000 0)),(13,.c (.P 6002000 0)),(43,cS TP (jh l r p)),(44,cI r),(45,cI i),(52,cS TP (jh l r p)),(53,cI r),(54,cI j)],Jm l (ot p l r i) (jR r i) [(5003000,.box 101 0 [.S aM (l i),.I .u64 p]),(6002000,.box 101 0 [.S aM (dS p l i j),.I .u64 p])] i,8,[]⟩) (λj=>j≤r) (λj=>r-j) 0 (bK _) ?_ ?_)))
  ·refine IB ⟨sR ae,sR ae,sR ae,sR ae,sR ae,sR ae,sR ae,sR ae,sR ae,sR ae,sR ae,sR ae,sR ae,sE ae ?_,sR ae,ah⟩ ⟨bR ae,bR ae,bE ae ?_,bR ae,iQ.gA λq hq=>cC⟩ (AX (CY Wq) (eQ.of ae) af Wr)
   ·exact ay (λz:Nat=>cI (z:Int)) FT
   ·exact ay (λz:List Int×Int=>aK.box 101 0 [.S aM z.1,.I .u64 z.2]) (yz i h)
  intro j hj;have hoj:=H.y5 h j hj;refine rr ae (aj (ax ae (λhc=>?_) (λhc=>?_)))
  ·have pZ:j<r:=by have hc:(j:Int)<(r:Int):=a9 hc;omega
   have AY:=H.c j pZ;have R5:=H.FQ j pZ;have yV:aG Tryz.prog 159 [aP (l i) p,aP (dS p l i j) p,.a (av TP ((jh l r p).getD ((j:Int)).toNat ([],0)))] (aP (bM (eD (dS p l i j) (l j) p) (l i) p).2 p):=by rw[bu,yz j pZ];exact Im p H.hp H.dp (l i) (dS p l i j) (l j) af af af rf hoj.1 AY (H.ne h)
   refine aC (ai (aj (aH (rr ae (rr ae (ax ae (λaR=>?_) (λaR=>?_)))))))
   ·have aR:j≠i:=λe=>by subst e;exact absurd ae (oU aR)
    refine cK (rc ae ae yV (re ae ?_));refine a6 (ai (rt ae (a8 (j+1) pZ (by show r-(j+1)<r-j;omega) (IB ⟨sR ae,sR ae,sR ae,sR ae,sR ae,sR ae,sR ae,sR ae,sR ae,sR ae,sR ae,sR ae,sR ae,sR ae,sR ae,ah⟩ ⟨bR ae,bR ae,bR ae,bE ae ?_,iQ.gA λq hq=>cC⟩ (AX (CY Wq) (eQ.of ae) af Wr)))));rw[dS,aq aR];rfl
   ·have aR:j=i:=by have:=oV aR;omega
    refine aC ?_;refine a6 (ai (rt ae (a8 (j+1) pZ (by show r-(j+1)<r-j;omega) (IB ⟨sR ae,sR ae,sR ae,sR ae,sR ae,sR ae,sR ae,sR ae,sR ae,sR ae,sR ae,sR ae,sR ae,sR ae,sR ae,ah⟩ ⟨bR ae,bR ae,bR ae,bE ae ?_,iQ.gA λq hq=>cC⟩ (AX (CY Wq) (eQ.of ae) af Wr)))));rw[dS,aw aR]
  ·have pZ:r=j:=by have hc:¬(j:Int)<(r:Int):=bC hc;omega
   subst pZ;have hinv:=akK p H.hp H.dp (dS p l i r) (l i) af hoj.1 rf af (H.xj i h) qA;refine bh (bt (bq (bp (ai ?_))));refine rb (rc ae ae hinv (lV (kV p (dS p l i r) (l i),(p:Int)) ae ae ae ae ae ?_ (re ae ?_) (hp:=?_)))
   ·rw[Uu p l r i hi];omega
   ·refine rr ae (aH (bA (α:=Nat) (λj=>⟨[(0,cS .z a),(1,cS TP (jh l r p)),(2,cU p),(3,cI k),(9,.c (.L 1002000 0 r (some r))),(10,.c (.X 2002000)),(11,cI i),(43,cS TP (jh l r p)),(44,cI r),(45,cI i),(74,cS aM (l i)),(75,cI (l i).length),(76,cI j)],anL l (ot p l r (i+1)) r i j,12,[]⟩) (λj=>j≤(l i).length) (λj=>(l i).length-j) 0 (bK _) ?_ ?_))
    ·refine IB ⟨sR ae,sR ae,sR ae,sR ae,sR ae,sR ae,sR ae,sR ae,sR ae,sR ae,sR ae,sR ae,sR ae,ah⟩ ⟨bR ae,bE ae ?_,iQ.gA λq hq=>cC⟩ (AX (CY Ws) .nil af Wt);exact ay (aK.vec 101 TP) (anJ p l r i h)
    intro j hj;have Ng:=rf.1 j;have FU:aG Tryz.prog 100 [.c (num .i64 ((l i).getD ((j:Int)).toNat 0)).1] (aZ ((l i).getD j 0)):=by rw[bu];exact oT _ af af
    have NK: -9223372036854775808≤(l i).getD ((j:Int)).toNat 0∧(l i).getD ((j:Int)).toNat 0≤9223372036854775807:=by rw[bu];omega
    cases j with
    |zero=>
     refine rr ae (aj (ax ae (λhc=>?_) (λhc=>?_)))
     ·refine aC (ai (aj (aH (rr ae (cK ?_)))));refine iV ae ae ?_ (mL ar (c:=vN) ae ae ?_ ae ?_)
      ·exact⟨by show(0:Int)≤(i:Int);omega,by show(i:Int)<(r:Int);omega⟩
      ·show(jR r i)[0+((i:Int)).toNat*1]? =_;rw[bu,eZ,k9];exact anG r i h
      refine rc ae ae FU ?_ (hp:=Wu);refine rl .z [(l i).getD 0 0] ae ae (Q6 ae ae ae ae ae ae ae ae ?_ ?_ ?_)
      ·show _*32≤_;simp
      ·show _*2≤_;simp
      refine iV ae ae ?_ (Fg ar ae ae ae ae ae ?_ (re ae ?_ (ho:=qX fR)))
      ·exact⟨by show(0:Int)≤(i:Int);omega,by show(i:Int)<(r:Int);omega⟩
      ·show 0+((i:Int)).toNat*1<_;rw[Uq r i hi];omega
      ·refine a6 (ai (rt ae (a8 1 af (by show(l i).length-1<(l i).length-0;omega) (xt (mv 900000 14010000) ⟨sR ae,sR ae,sR ae,sR ae,sR ae,sR ae,sR ae,sR ae,sR ae,sR ae,sR ae,sR ae,sR ae,ah⟩ ⟨bE ae ?_,bR ae,bE ae ?_,j4.gA λq hq=>?_⟩ ae (Ur Wv) (AX (acX Ws (by show 900000<1000000*12;decide)) (eQ.of ae) af Wt)))))
       ·show aK.box 57 0 ((jR r i).set (0+((i:Int)).toNat*1) (.X 14010000))=aK.box 57 0 (((jR r i).set i (.X 900000)).map (oj (mv 900000 14010000)));rw[NJ,Ut af,bu,eZ,k9];rfl
       ·exact ay (aK.vec 44 .z) (acT (l i) (j:=0) af)
       ·rw[uI af];exact cC
     ·exfalso;have hc:¬((0:Nat):Int)<((l i).length:Int):=bC hc;omega
    |succ j=>
     have lS:((l i).take (j+1)).length=j+1:=zt
     refine rr ae (aj (ax ae (λhc=>?_) (λhc=>?_)))
     ·have nk:j+1<(l i).length:=by have hc:((j+1:Nat):Int)<((l i).length:Int):=a9 hc;omega
      refine aC (ai (aj (aH (rr ae (cK ?_)))));refine iV ae ae ?_ (mL ar (c:= .X 900000) ae ae ?_ ae ?_)
      ·exact⟨by show(0:Int)≤(i:Int);omega,by show(i:Int)<(r:Int);omega⟩
      ·show((jR r i).set i (.X 900000))[0+((i:Int)).toNat*1]? =_;rw[bu,eZ,k9,List.getElem?_set_self (by rw[Uq r i hi];omega)]
      refine rc ae ae FU ?_ (hp:=Wu);refine rl .z [(l i).getD (j+1) 0] ae ae (ra ae ae ae ae ae ae ae ae ae ?_ ?_ ?_)
      ·show(_+1+(_+1)/4+192)*32≤_;rw[lS];omega
      ·show(_+1)*2≤_;rw[lS];omega
      refine iV ae ae ?_ (Fg ar ae ae ae ae ae ?_ (re ae ?_ (ho:=qX fR)))
      ·exact⟨by show(0:Int)≤(i:Int);omega,by show(i:Int)<(r:Int);omega⟩
      ·show 0+((i:Int)).toNat*1<_;rw[gO,Uq r i hi];omega
      ·refine a6 (ai (rt ae (a8 (j+1+1) af (by show(l i).length-(j+1+1)<(l i).length-(j+1);omega) (xt (mv 900000 14010000) ⟨sR ae,sR ae,sR ae,sR ae,sR ae,sR ae,sR ae,sR ae,sR ae,sR ae,sR ae,sR ae,sR ae,ah⟩ ⟨bE ae ?_,bR ae,bE ae ?_,j4.gA λq hq=>?_⟩ ae (Ur Wv) (AX (acX Ws (by show 900000<1000000*12;decide)) (eQ.of ae) af Wt)))))
       ·show aK.box 57 0 (((jR r i).set i (.X 900000)).set (0+((i:Int)).toNat*1) (.X 14010000))=aK.box 57 0 (((jR r i).set i (.X 900000)).map (oj (mv 900000 14010000)));rw[NJ,Ut af,bu,eZ,k9,List.set_set];rfl
       ·exact ay (aK.vec 44 .z) (acT (l i) nk)
       ·rw[uI af];exact(by(repeat(refine(bH af).trans ?_));refine(anI af).trans ?_;(repeat(refine(bH af).trans ?_));exact cw af)
     ·have nk:(l i).length=j+1:=by have hc:¬((j+1:Nat):Int)<((l i).length:Int):=bC hc;omega
      have hta:(l i).take (j+1)=l i:=by rw[←nk,iK]
      refine bh (bt (bq (bp (a6 (ai (rt ae (a8 (i+1) h (by show r-(i+1)<r-i;omega) (xt (mv (1+i) 900000) ⟨sR ae,sR ae,sR ae,sR ae,⟨_,ae,au.of_eq (ay (λz=>AV.c (.L z 0 r (some r))) (uI af).symm)⟩,⟨_,ae,au.of_eq (ay (λz=>AV.c (.X z)) (uI af).symm)⟩,sR ae,sR ae,sR ae,ah⟩ ⟨⟨_,mvl af ae,di.of_eq ?_⟩,⟨_,mvl af ae,di.refl _⟩,j4.gA λq hq=>?_⟩ (uI af) (Ur Wv) (AX (CY (by show 1+(i+1)≤1000000*4;omega)) .nil af (by show 3000000≤1000000*4;decide))))))))))
      ·show aK.box 57 0 ((jR r i).set i (.X 900000))=aK.box 57 0 ((jR r (i+1)).map (oj (mv (1+i) 900000)));rw[←anH r i h,NJ,Ut af];show _=aK.box 57 0 ((jR r i).set i (.X (mv (1+i) 900000 (1+i))));rw[NI]
      ·by_cases e:q=i
       ·subst e;rw[NI];exact ay (λz=>some (aK.vec 44 .z z)) hta
       ·rw[uI af];exact cC
   ·have:=Uu p l r i hi;simp only[Pr.an,Pr.h,num,aA,true_and,and_true];omega
 ·have dJ:r=i:=by have h:¬(i:Int)<(r:Int):=bC h;omega
  subst dJ;refine bh (bt (bq (bp (nG je (iD ⟨sR ae,sR ae,sR ae,sR ae,sR ae,sR ae,ah⟩ ⟨bR ae,ah⟩ (ay (λz=>some (aK.box 57 0 z)) (anE r)) (λq hq=>cC) af)))))
end Go.El
