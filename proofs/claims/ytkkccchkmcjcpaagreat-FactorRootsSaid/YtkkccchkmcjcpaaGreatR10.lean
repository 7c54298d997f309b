/- Plain: derivatives, factors and Yun's algorithm over the rationals. Own work; no condition. -/
import Derived.Test.YtkkccchkmcjcpaaGreatR9
import Derived.Test.YtkkccchkmcjcpaaGreatR6
import Derived.Test.YtkkccchkmcjcpaaGreatR7
set_option linter.defProp false
set_option linter.unusedVariables false
set_option linter.unusedSimpArgs false
set_option linter.unnecessarySimpa false
namespace Go.El
namespace Rx
def Aq{A B C D:Rx}(h:A∣B)(k:C∣D):A*C∣B*D:=by obtain⟨w,rfl⟩:=h;obtain⟨v,rfl⟩:=k;exact⟨w*v,by ac_rfl⟩
def uh{c:Rat}(h:c≠0):sz (K c)=1:=B6 (pC h)
def Tl{A B:Rx}{c:Rat}(hc:c≠0)(h:A∣K c*B):A∣B:=by
 have e:B=K c⁻¹ *(K c*B):=by rw[←mul_assoc,pC hc,one_mul]
 rw[e];exact fg h _
def bG(A:Rx):Rx:=⟨λi=>((i+1:Nat):Rat)*A (i+1),by obtain⟨n,h⟩:=A.2;exact⟨n,λi hi=>by rw[h (i+1) af,jG]⟩⟩
def rW(A:Rx)(i:Nat):bG A i=((i+1:Nat):Rat)*A (i+1):=rfl
def HQ(x y:Rx):bG (x+y)=bG x+bG y:=ext λi=>by rw[rW,fJ,fJ,Rat.mul_add];rfl
def EB(c:Rat):bG (K c)=0:=ext λi=>by rw[rW,qQ,aq af,jG];rfl
def R6:bG 0=0:=by rw[←mA,EB,mA]
def al5:bG 1=0:=EB 1
def EC(c:Rat)(x:Rx):bG (K c*x)=K c*bG x:=ext λi=>by rw[rW,iA,iA,rW];grind
def HR(x:Rx):bG (X 1*x)=x+X 1*bG x:=ext λi=>by
 rw[rW,pt,fJ,pt,aw af,jx];cases i with
 |zero=>rw[aq af,sk];exact zm _
 |succ i=>
  rw[aw af,jx,rW,OX (i+1) 1]
  grind
def HS(B:Rx):∀a:List Rat,bG (lx a*B)=bG (lx a)*B+lx a*bG B
 |[]=>by rw[xi,zero_mul,R6,zero_mul,zero_mul,zero_add]
 |c::a=>by have ih:=HS B a;rw[IA,add_mul,HQ,EC,mul_assoc,HR,ih,HQ,EB,zero_add,HR];simp only[add_mul,mul_add];ac_rfl
def vr(A B:Rx):bG (A*B)=bG A*B+A*bG B:=by obtain⟨a,_,rfl⟩:=kC A;exact HS B a
def HT(Q:Rx):∀e,bG (pk Q (e+1))=pk Q e*(K ((e+1:Nat):Rat)*bG Q)
 |0=>by rw[B3];show bG Q=1*(K 1*bG Q);rw[mD,one_mul,one_mul]
 |e+1=>by rw[show pk Q (e+1+1)=pk Q (e+1)*Q from ae,vr,HT Q e,OX (e+1) 1,qE,add_mul,mul_add];rw[show(K ((1:Nat):Rat):Rx)=1 from ae,one_mul,show pk Q (e+1)=pk Q e*Q from ae];ac_rfl
def abw{Q:Rx}(h:2≤sz Q):bG Q≠0:=λe=>by
 obtain⟨n,hn⟩:∃n,sz Q=n+1+1:=⟨sz Q-2,by omega⟩;have h1:=IC hn;have h2:bG Q n=(0:Rx) n:=se;rw[rW,lR]at h2;rcases Dg.1 h2 with h2|h2
 ·have:n+1=0:=by exact_mod_cast h2
  omega
 ·exact h1 h2
def HU{Q:Rx}:sz (bG Q)≤sz Q-1:=vD λi hi=>by rw[rW,oa af,jG]
def cp.E6{Q:Rx}(h:cp Q):¬Q∣bG Q:=λhd=>by have h1:=h.1;have h2:=HU (Q:=Q);exact abw h1 (vq hd af)
def Mo(A:Rx):Prop:=A (sz A-1)=1
def Mo.ne{A:Rx}(h:Mo A):A≠0:=λe=>by subst e;have h1:(0:Rat)=1:=h;exact absurd h1 ak
def Mo.at{A:Rx}(h:Mo A){n:Nat}(hn:sz A=n+1):A n=1:=by have:=h;rwa[Mo,hn,jx]at this
def abx{A B:Rx}{m n:Nat}(hm:sz A=m+1)(hn:sz B=n+1):(A*B) (m+n)=A m*B n:=yp (λi hi=>oa af) (λi hi=>oa af)
def E7{A:Rx}(h:A≠0):∃n,sz A=n+1:=⟨sz A-1,by have:=eN h;omega⟩
def Mo.mul{A B:Rx}(h:Mo A)(k:Mo B):Mo (A*B):=by obtain⟨m,hm⟩:=E7 h.ne;obtain⟨n,hn⟩:=E7 k.ne;have h1:=eK h.ne k.ne;rw[Mo,show sz (A*B)-1=m+n by omega,abx hm hn,h.at hm,k.at hn,zm]
def Mo.Cr{A B:Rx}(h:Mo (A*B))(k:Mo B):Mo A:=by
 have hA:A≠0:=λe=>h.ne JI
 obtain⟨m,hm⟩:=E7 hA;obtain⟨n,hn⟩:=E7 k.ne;have h1:=eK hA k.ne;have h2:=h.at (n:=m+n) af;rw[abx hm hn,k.at hn,Bb]at h2;rw[Mo,hm];exact h2
def aby:Mo 1:=by have:sz (1:Rx)=1:=oK;rw[Mo,this];rfl
def Mo.pk{A:Rx}(h:Mo A):∀n,Mo (pk A n)
 |0=>aby
 |n+1=>(Mo.pk h n).mul h
def Mo.unit{A:Rx}(h:Mo A)(h1:sz A=1):A=1:=by obtain⟨c,hc,rfl⟩:=EA h1;have h2:=h.at h1;rw[show c=1 from h2];rfl
def Mo.eq{A B:Rx}(h:Mo A)(k:Mo B)(h1:A∣B)(h2:B∣A):A=B:=by have e1:=kD h1 k.ne;have e2:=kD h2 h.ne;obtain⟨w,rfl⟩:=h1;have hw:Mo w:=k.Cr h;have e3:=eK hw.ne h.ne;have e4:w=1:=hw.unit af;rw[e4,one_mul]
def Tm{A:Rx}(h:A≠0):∃c:Rat,c≠0∧Mo (K c*A):=by
 obtain⟨n,hn⟩:=E7 h;have h1:=IC hn;have h2:(A n)⁻¹ ≠0:=λe=>by have:=ou _ h1;rw[e,wo]at this;exact absurd this ak
 refine⟨(A n)⁻¹,h2,?_⟩;have h3:=eK (ug h2) h;rw[uh h2]at h3;rw[Mo,show sz (K (A n)⁻¹ *A)-1=n by omega,iA,ou _ h1]
def cp.smul{Q:Rx}(h:cp Q){c:Rat}(hc:c≠0):cp (K c*Q):=by
 have h3:=eK (ug hc) h.ne;rw[uh hc]at h3;refine⟨by have:=h.1;omega,λA B e=>?_⟩;have e2:Q=(K c⁻¹ *A)*B:=by rw[mul_assoc,←e,←mul_assoc,pC hc,one_mul]
 rcases h.2 _ _ e2 with e3|e3
 ·left;have qO:c⁻¹ ≠0:=λe=>by have:=ou _ hc;rw[e,wo]at this;exact absurd this ak
  have hA:A≠0:=λe4=>by rw[e4,mul_zero,kQ]at e3;omega
  have:=eK (ug qO) hA;rw[uh qO]at this;omega
 ·exact .inr e3
def cp.assoc{Q q:Rx}(h:cp Q)(k:cp q)(hd:Q∣q):q∣Q:=by
 obtain⟨w,hw⟩:=hd;rcases k.2 _ _ hw with e|e
 ·obtain⟨C,hC⟩:=xa e;exact⟨C,by rw[hw,←mul_assoc,hC,one_mul]⟩
 ·have:=h.1;omega
def cp.eq{Q q:Rx}(h:cp Q)(k:cp q)(hm:Mo Q)(km:Mo q)(hd:Q∣q):Q=q:=hm.eq km hd (h.assoc k hd)
def mult{Q:Rx}(hQ:cp Q):∀(n:Nat)(F:Rx),sz F<n→F≠0→∃e h,F=pk Q e*h∧¬Q∣h
 |0,_,h,_=>by omega
 |n+1,F,h,hF=>by
  by_cases hd:Q∣F
  ·obtain⟨w,rfl⟩:=hd;have hw:w≠0:=λe=>hF JI
   have h1:=eK hw hQ.ne;have h2:=hQ.1;obtain⟨e,g,rfl,h3⟩:=mult hQ n w af hw;exact⟨e+1,g,by rw[pk];ac_rfl,h3⟩
  ·exact⟨0,F,(one_mul F).symm,hd⟩
def cp.pk{Q A:Rx}(h:cp Q):∀{n:Nat},Q∣pk A n→0<n∧Q∣A
 |0,hd=>absurd hd h.xb
 |n+1,hd=>by
  rcases h.rO hd with e|e
  ·exact⟨by omega,(cp.pk h e).2⟩
  ·exact⟨by omega,e⟩
structure FL(L:List (Rx×Nat)):Prop where
 gZ:∀x∈L,cp x.1
 mo:∀x∈L,Mo x.1
 pos:∀x∈L,1≤x.2
 yG:L.Pairwise (λx y=>x.1≠y.1)
def FL.tail{x:Rx×Nat}{L:List (Rx×Nat)}(h:FL (x::L)):FL L:=⟨λy hy=>h.gZ y oT,λy hy=>h.mo y oT,λy hy=>h.pos y oT,(jZ.1 h.yG).2⟩
def FL.Tn:∀{L:List (Rx×Nat)},L.Pairwise (λx y=>x.1≠y.1)→∀{x z:Rx×Nat},x∈L→z∈L→x≠z→x.1≠z.1
 |y::L,h,x,z,hx,hz,aN=>by
  obtain⟨h1,h2⟩:=jZ.1 h;rcases dx.1 hx with e1|nz
  ·rcases dx.1 hz with e2|gV
   ·exact absurd (e1.trans e2.symm) aN
   ·rw[e1];exact h1 z gV
  ·rcases dx.1 hz with e2|gV
   ·rw[e2];exact(h1 x nz).symm
   ·exact FL.Tn h2 nz gV aN
def pF(c:Nat→Nat):List (Rx×Nat)→Rx
 |[]=>1
 |x::L=>pk x.1 (c x.2)*pF c L
def E8(c d:Nat→Nat):∀L,pF (λm=>c m+d m) L=pF c L*pF d L
 |[]=>(one_mul 1).symm
 |x::L=>by rw[pF,pF,pF,E8 c d L,wX];ac_rfl
def Cs{c d:Nat→Nat}:∀{L:List (Rx×Nat)},(∀x∈L,c x.2=d x.2)→pF c L=pF d L
 |[],_=>rfl
 |x::L,h=>by rw[pF,pF,h x be,Cs (λy hy=>h y oT)]
def vE{c:Nat→Nat}:∀{L:List (Rx×Nat)},(∀x∈L,Mo x.1)→Mo (pF c L)
 |[],_=>aby
 |x::L,h=>((h x be).pk _).mul (vE λy hy=>h y oT)
def To{c:Nat→Nat}:∀{L:List (Rx×Nat)},(∀x∈L,c x.2=0)→pF c L=1
 |[],_=>rfl
 |x::L,h=>by rw[pF,h x be,To (λy hy=>h y oT)];exact one_mul 1
def E9{c:Nat→Nat}:∀{L:List (Rx×Nat)}{x:Rx×Nat},x∈L→0<c x.2→x.1∣pF c L
 |y::L,x,h,hc=>by
  rw[pF];rcases dx.1 h with rfl|h
  ·obtain⟨e,he⟩:∃e,c x.2=e+1:=⟨c x.2-1,by omega⟩;rw[he,pk];exact qH (dvd_mul_left _ _) _
  ·exact fg (E9 h hc) _
def AA{c:Nat→Nat}{Q:Rx}(hQ:cp Q):∀{L:List (Rx×Nat)},Q∣pF c L→∃x∈L,0<c x.2∧Q∣x.1
 |[],h=>absurd h hQ.xb
 |y::L,h=>by
  rcases hQ.rO h with e|e
  ·exact⟨y,by simp,hQ.pk e⟩
  ·obtain⟨x,h1,h2⟩:=AA hQ e;exact⟨x,by simp[h1],h2⟩
def FL.abz{x:Rx×Nat}{L:List (Rx×Nat)}(h:FL (x::L)){c:Nat→Nat}:¬x.1∣pF c L:=λhd=>by obtain⟨y,h1,h2,h3⟩:=AA (h.gZ x be) hd;exact(jZ.1 h.yG).1 y h1 ((h.gZ x be).eq (h.gZ y (by simp[h1])) (h.mo x be) (h.mo y (by simp[h1])) h3)
def FL.E6{c:Nat→Nat}(hc:∀m,c m≤1):∀{L:List (Rx×Nat)},FL L→∀{x:Rx×Nat},x∈L→c x.2=1→¬x.1∣bG (pF c L)
 |y::L,h,x,hx,h1,hd=>by
  have hy:=h.gZ y be;rcases dx.1 hx with rfl|nz
  ·rw[pF,h1,B3,vr]at hd;rcases hy.rO (wV ((add_comm _ _).symm▸hd) (dvd_mul_right _ _))with e|e
   ·exact hy.E6 e
   ·exact h.abz e
  ·have ih:=FL.E6 hc h.tail nz h1;have hi:=h.gZ x hx;by_cases e0:c y.2=0
   ·rw[pF,e0]at hd;exact ih (by rwa[show pk y.1 0=1 from ae,one_mul]at hd)
   ·have e1:c y.2=1:=by have:=hc y.2;omega
    rw[pF,e1,B3,vr]at hd;rcases hi.rO (wV hd (fg (E9 nz af) _))with e|e
    ·exact(jZ.1 h.yG).1 x nz (hi.eq hy (h.mo x hx) (h.mo y be) e).symm
    ·exact ih e
def abA{c:Nat→Nat}(hc:∀m,c m≤1){Z:Rx}:∀{L:List (Rx×Nat)},FL L→(∀x∈L,c x.2=1→x.1∣Z)→pF c L∣Z
 |[],_,_=>⟨Z,(mul_one Z).symm⟩
 |y::L,h,hz=>by
  have ih:=abA hc h.tail (λx hx=>hz x lC);rw[pF];by_cases e0:c y.2=0
  ·rw[e0,show pk y.1 0=1 from ae,one_mul];exact ih
  ·have e1:c y.2=1:=by have:=hc y.2;omega
   rw[e1,B3];refine Co.LU (Ap (h.mo y be).ne λQ hQ h1 h2=>?_) (hz y be e1) ih;exact h.abz (dvd_trans (hQ.assoc (h.gZ y be) h1) h2)
def abB:∀(n:Nat)(F:Rx),sz F<n→Mo F→∃L,FL L∧pF id L=F
 |0,_,h,_=>by omega
 |n+1,F,h,hF=>by
  have h0:=eN hF.ne;by_cases e:sz F=1
  ·exact⟨[],⟨by simp,by simp,by simp,.nil⟩,(hF.unit e).symm⟩
  ·obtain⟨Q,hQ,hd⟩:=Ao _ F (fN _) af;obtain⟨c,hc,hm⟩:=Tm hQ.ne;have hq:=hQ.smul hc;have Tp:K c*Q∣F:=dvd_trans (hQ.assoc hq (dvd_mul_left _ _)) hd;generalize K c*Q=q at*;obtain⟨e,g,e1,e2⟩:=mult hq _ F (fN _) hF.ne;have he:1≤e:=by
    rcases wb e with e3|e3
    ·subst e3;rw[show pk q 0=1 from ae,one_mul]at e1;exact absurd (e1▸Tp) e2
    ·exact e3
   have hg:Mo g:=by rw[e1,mul_comm]at hF;exact hF.Cr (hm.pk e)
   have h3:sz g<sz F:=by have h4:=eK (hm.pk e).ne hg.ne;rw[←e1]at h4;obtain⟨e',rfl⟩:∃e',e=e'+1:=⟨e-1,by omega⟩;have h5:=eK (hm.pk e').ne hm.ne;have h6:=eN (hm.pk e').ne;have h7:=hq.1;rw[show pk q (e'+1)=pk q e'*q from ae]at h4;omega
   obtain⟨L,h5,h6⟩:=abB n g af hg;refine⟨(q,e)::L,⟨?_,?_,?_,jZ.2 ⟨λy hy e3=>?_,h5.yG⟩⟩,?_⟩
   ·intro x hx;rcases dx.1 hx with rfl|hx
    ·exact hq
    ·exact h5.gZ x hx
   ·intro x hx;rcases dx.1 hx with rfl|hx
    ·exact hm
    ·exact h5.mo x hx
   ·intro x hx;rcases dx.1 hx with rfl|hx
    ·exact he
    ·exact h5.pos x hx
   ·refine e2 ?_;rw[←h6];have e3:q=y.1:=e3;rw[e3];exact E9 hy (h5.pos y hy)
   ·rw[pF,h6];exact e1.symm
structure ID(D A B:Rx):Prop where
 mo:Mo D
 l:D∣A
 r:D∣B
 ex:∃U V,D=U*A+V*B
def kW(n:Nat):Nat→Nat:=λm=>if n≤m then 1 else 0
def kP(n:Nat):Nat→Nat:=λm=>if m=n then 1 else 0
def kG:Nat→Nat:=λm=>m-1
def Tq(n:Nat):∀m,kW n m≤1:=λm=>by unfold kW;split<;>omega
def Fa(n:Nat):∀m,kP n m≤1:=λm=>by unfold kP;split<;>omega
def Ct{n m:Nat}:kW n m=1↔n≤m:=by unfold kW;split<;>omega
def MK{n m:Nat}:kP n m=1↔m=n:=by unfold kP;split<;>omega
def ML(n:Nat)(L:List (Rx×Nat)):pF (kW n) L=pF (kP n) L*pF (kW (n+1)) L:=by rw[←E8];exact Cs λx _=>by unfold kW kP;split<;>split<;>split<;>omega
def MM{L:List (Rx×Nat)}(h:FL L):pF id L=pF (kW 1) L*pF kG L:=by rw[←E8];exact Cs λx hx=>by have:=h.pos x hx;show x.2=kW 1 x.2+kG x.2;unfold kW kG;split<;>omega
def Yp(L:List (Rx×Nat))(n:Nat)(y:Rx):Prop:=∀x∈L,n≤x.2→x.1∣y-K ((x.2:Rat)-(n:Rat)+1)*bG (pF (kW n) L)
def abC:∀{L:List (Rx×Nat)},FL L→∃Y,bG (pF id L)=Y*pF kG L∧∀x∈L,x.1∣Y-K (x.2:Rat)*bG (pF (kW 1) L)
 |[],_=>⟨0,by rw[zero_mul];exact al5,λx hx=>by simp at hx⟩
 | (q,m)::L,h=>by
  obtain⟨Y,h1,h2⟩:=abC h.tail;have hm:1≤m:=h.pos (q,m) be;obtain⟨e,rfl⟩:∃e,m=e+1:=⟨m-1,by omega⟩;have eW:pF (kW 1) ((q,e+1)::L)=q*pF (kW 1) L:=by rw[pF,Ct.2 af,B3]
  have eG:pF kG ((q,e+1)::L)=pk q e*pF kG L:=rfl;have eE:pF id ((q,e+1)::L)=pk q e*q*pF id L:=rfl;refine⟨K ((e+1:Nat):Rat)*bG q*pF (kW 1) L+q*Y,?_,?_⟩
  ·rw[eE,eG,vr,h1,show pk q e*q=pk q (e+1)from ae,HT,MM h.tail,show pk q (e+1)=pk q e*q from ae,add_mul];ac_rfl
  ·intro x hx;rw[eW,vr];rcases dx.1 hx with rfl|hx
   ·refine⟨Y-K ((e+1:Nat):Rat)*bG (pF (kW 1) L),?_⟩;show K ((e+1:Nat):Rat)*bG q*pF (kW 1) L+q*Y-K ((e+1:Nat):Rat)*(bG q*pF (kW 1) L+q*bG (pF (kW 1) L))=_;rw[sub_mul];refine sub_eq ?_;rw[mul_add];have e1:Y*q-K ((e+1:Nat):Rat)*bG (pF (kW 1) L)*q+(K ((e+1:Nat):Rat)*(bG q*pF (kW 1) L)+K ((e+1:Nat):Rat)*(q*bG (pF (kW 1) L)))=(Y*q-K ((e+1:Nat):Rat)*bG (pF (kW 1) L)*q+K ((e+1:Nat):Rat)*bG (pF (kW 1) L)*q)+K ((e+1:Nat):Rat)*(bG q*pF (kW 1) L):=kI;rw[e1,lT];ac_rfl
   ·have h3:=h2 x hx;have h4:x.1∣pF (kW 1) L:=E9 hx (by rw[Ct.2 (h.pos x lC)];omega);rw[mul_add,RV];refine dvd_add (dvd_sub (fg h4 _) (fg (fg h4 _) _)) ?_;have e1:q*Y-K (x.2:Rat)*(q*bG (pF (kW 1) L))=q*(Y-K (x.2:Rat)*bG (pF (kW 1) L)):=by rw[mul_sub];congr 1;ac_rfl
    rw[e1];exact fg h3 q
def AB{m:Nat}(h:m≠0):(m:Rat)≠0:=λe=>h (by exact_mod_cast e)
def al6{L:List (Rx×Nat)}(h:FL L){D:Rx}(hD:ID D (pF id L) (bG (pF id L))):D=pF kG L∧∃Y,bG (pF id L)=Y*D∧Yp L 1 Y:=by
 obtain⟨Y,h1,h2⟩:=abC h;have hE:=MM h;have oL:Co (pF (kW 1) L) Y:=Ap (vE h.mo).ne λQ hQ q1 q2=>by obtain⟨x,hx,h3,h4⟩:=AA hQ q1;have h5:=dvd_trans (hQ.assoc (h.gZ x hx) h4) q2;have h6:=Ew (nE (h2 x hx)) h5;exact FL.E6 (Tq 1) h hx (Ct.2 (h.pos x hx)) (Tl (AB (by have:=h.pos x hx;omega)) h6)
 obtain⟨U',V',LV⟩:=oL;obtain⟨d1,d2,d3,U,V,d4⟩:=hD;have e:D=pF kG L:=by
  refine d1.eq (vE h.mo) ?_ ?_
  ·have:pF kG L=U'*pF id L+V'*bG (pF id L):=by rw[hE,←hE,h1,←mul_assoc,hE,←mul_assoc,←add_mul,LV,one_mul]
   rw[this];exact dvd_add (fg d2 _) (fg d3 _)
  ·rw[d4,h1];refine dvd_add (fg ?_ _) (fg (dvd_mul_left _ _) _);rw[hE];exact dvd_mul_left _ _
 refine⟨e,Y,by rw[e];exact h1,λx hx _=>?_⟩;rw[show(x.2:Rat)-((1:Nat):Rat)+1=(x.2:Rat)by show(x.2:Rat)-1+1=_;grind];exact h2 x hx
def al7{L:List (Rx×Nat)}(h:FL L){n:Nat}{y D:Rx}(hy:Yp L n y)(hD:ID D (pF (kW n) L) (y-bG (pF (kW n) L))):D=pF (kP n) L∧∃y',y-bG (pF (kW n) L)=y'*D∧Yp L (n+1) y':=by
 have hz:∀x∈L,n≤x.2→x.1∣(y-bG (pF (kW n) L))-K ((x.2:Rat)-(n:Rat))*bG (pF (kW n) L):=λx hx hn=>by
  have h1:=hy x hx hn;rw[qE,add_mul,mD,one_mul]at h1;have e:(y-bG (pF (kW n) L))-K ((x.2:Rat)-(n:Rat))*bG (pF (kW n) L)=y-(K ((x.2:Rat)-(n:Rat))*bG (pF (kW n) L)+bG (pF (kW n) L)):=by refine sub_eq ?_;refine sub_eq ?_;rw[add_assoc,lT]
  rw[e];exact h1
 have hP:pF (kP n) L∣y-bG (pF (kW n) L):=abA (Fa n) h λx hx hc=>by have hn:=MK.1 hc;have h1:=hz x hx af;rw[hn,Rat.sub_self,mA,zero_mul,sub_zero]at h1;exact h1
 obtain⟨d1,d2,d3,U,V,d4⟩:=hD;have e:D=pF (kP n) L:=by
  refine d1.eq (vE h.mo) ?_ ?_
  ·have oL:Co D (pF (kW (n+1)) L):=Ap d1.ne λQ hQ q1 q2=>by
    obtain⟨x,hx,h3,h4⟩:=AA hQ q2;have hn:n+1≤x.2:=Ct.1 (by have:=Tq (n+1) x.2;omega);have h5:x.1∣y-bG (pF (kW n) L):=dvd_trans (hQ.assoc (h.gZ x hx) h4) (dvd_trans q1 d3);have h6:=Ew (nE (hz x hx af)) h5;have h7:(x.2:Rat)-(n:Rat)≠0:=λe=>by
     have:(x.2:Rat)=(n:Rat):=by grind
     have:x.2=n:=by exact_mod_cast this
     omega
    exact FL.E6 (Tq n) h hx (Ct.2 af) (Tl h7 h6)
   rw[ML,mul_comm]at d2;exact oL.dvd d2
  ·rw[d4];refine dvd_add (fg ?_ _) (fg hP _);rw[ML];exact dvd_mul_right _ _
 obtain⟨y',Hh⟩:=hP;refine⟨e,y',by rw[e];exact Hh,λx hx hn=>?_⟩;have h1:=hz x hx af;rw[Hh,ML,vr,mul_add]at h1;have h4:x.1∣pF (kW (n+1)) L:=E9 hx (by rw[Ct.2 hn];omega);have h5:x.1∣pF (kP n) L*(y'-K ((x.2:Rat)-((n+1:Nat):Rat)+1)*bG (pF (kW (n+1)) L)):=by
  have e1:(x.2:Rat)-((n+1:Nat):Rat)+1=(x.2:Rat)-(n:Rat):=by rw[OX];grind
  rw[e1,mul_sub];have h6:=dvd_add h1 (fg (fg h4 (bG (pF (kP n) L))) (K ((x.2:Rat)-(n:Rat))));have e2:y'*pF (kP n) L-(K ((x.2:Rat)-(n:Rat))*(bG (pF (kP n) L)*pF (kW (n+1)) L)+K ((x.2:Rat)-(n:Rat))*(pF (kP n) L*bG (pF (kW (n+1)) L)))+K ((x.2:Rat)-(n:Rat))*(bG (pF (kP n) L)*pF (kW (n+1)) L)=pF (kP n) L*y'-pF (kP n) L*(K ((x.2:Rat)-(n:Rat))*bG (pF (kW (n+1)) L)):=by
   refine LN ?_;have e3:∀a b c:Rx,a-(b+c)+b+c=a:=λa b c=>by rw[add_assoc,lT]
   have e4:pF (kP n) L*(K ((x.2:Rat)-(n:Rat))*bG (pF (kW (n+1)) L))=K ((x.2:Rat)-(n:Rat))*(pF (kP n) L*bG (pF (kW (n+1)) L)):=kI;rw[e4,e3,mul_comm]
  rw[e2]at h6;exact h6
 rcases(h.gZ x hx).rO h5 with e1|e1
 ·obtain⟨z,GI,zC,PI⟩:=AA (h.gZ x hx) e1;have hzn:z.2=n:=MK.1 (by have:=Fa n z.2;omega);have hxz:x.1=z.1:=(h.gZ x hx).eq (h.gZ z GI) (h.mo x hx) (h.mo z GI) PI;exact absurd hxz (λe5=>by
   have aN:x≠z:=λe6=>by subst e6;omega
   have hp:=h.yG;exact FL.Tn hp hx GI aN e5)
 ·exact e1
end Rx
def bO:Nat→Nat
 |0=>1
 |n+1=>(n+1)*bO n
def IE:∀n,0<bO n
 |0=>Nat.one_pos
 |n+1=>zj (Nat.succ_pos n) (IE n)
def vF:∀i j,ch (i+j) i*(bO i*bO j)=bO (i+j)
 |0,j=>by rw[eR,sZ,bO,iZ,iZ]
 |i+1,0=>by rw[j6,HA,show bO 0=1 from ae,kT,iZ]
 |i+1,j+1=>by
  have h1:=vF i (j+1);have h2:=vF (i+1) j;rw[show i+1+(j+1)=(i+(j+1))+1 by omega,ch,show bO (i+(j+1)+1)=(i+(j+1)+1)*bO (i+(j+1))from ae,fP];rw[show i+(j+1)=i+1+j by omega]at h1⊢;have e1:ch (i+1+j) i*(bO (i+1)*bO (j+1))=(i+1)*bO (i+1+j):=by rw[←h1,bO];ac_rfl
  have e2:ch (i+1+j) (i+1)*(bO (i+1)*bO (j+1))=(j+1)*bO (i+1+j):=by rw[←h2,show bO (j+1)=(j+1)*bO j from ae];ac_rfl
  rw[e1,e2,←fP,show i+1+(j+1)=i+1+j+1 by omega]
def sN(f:Nat→Nat):Nat→Nat
 |0=>0
 |k+1=>sN f k+f k
def abD{f g:Nat→Nat}:∀{k:Nat},(∀i,i<k→f i=g i)→sN f k=sN g k
 |0,_=>rfl
 |k+1,h=>by rw[sN,sN,abD (λi hi=>h i af),h k af]
def abE(f g:Nat→Nat):∀k,sN (λi=>f i+g i) k=sN f k+sN g k
 |0=>rfl
 |k+1=>by simp only[sN,abE f g k];omega
def MN(f:Nat→Nat):∀k,sN f (k+1)=f 0+sN (λi=>f (i+1)) k
 |0=>by simp[sN]
 |k+1=>by rw[sN,MN f k,sN];omega
def Tr(f:Nat):∀a k,ch (a+f) k=sN (λt=>ch a t*ch f (k-t)) (k+1)
 |0,k=>by
  rw[MN,sZ,iZ,eR,A9];have:sN (λi=>ch 0 (i+1)*ch f (k-(i+1))) k=0:=by
   have e:∀k',sN (λi=>ch 0 (i+1)*ch f (k-(i+1))) k'=0:=λk'=>by
    induction k' with
    |zero=>rfl
    |succ n ih=>rw[sN,ih,Af 0 (n+1) af,A5]
   exact e k
  rw[this];rfl
 |a+1,0=>by rw[sZ,sN,sN,sZ,sZ]
 |a+1,k+1=>by
  rw[show a+1+f=a+f+1 by omega,ch,Tr f a k,Tr f a (k+1),MN (λt=>ch (a+1) t*ch f (k+1-t)),MN (λt=>ch a t*ch f (k+1-t))];have e:sN (λi=>ch (a+1) (i+1)*ch f (k+1-(i+1))) (k+1)=sN (λi=>ch a i*ch f (k-i)) (k+1)+sN (λi=>ch a (i+1)*ch f (k+1-(i+1))) (k+1):=by
   rw[←abE];refine abD λi _=>?_
   rw[ch,fP,show k+1-(i+1)=k-i by omega]
  rw[e,sZ,sZ];omega
def AD{f:Nat→Int}{a:Nat}:∀{n:Nat},a<n→(∀i,i<n→i≠a→f i=0)→sm f n=f a
 |0,h,_=>by omega
 |n+1,h,hz=>by
  rw[sm];by_cases e:a=n
  ·subst e;rw[nZ (λi hi=>hz i af af),A7]
  ·rw[AD (n:=n) af (λi hi=>hz i af),hz n af af,nl]
def abF(f:Nat→Nat):∀k,((sN f k:Nat):Int)=sm (λi=>((f i:Nat):Int)) k
 |0=>rfl
 |k+1=>by rw[sN,sm,ze,abF f k]
def uv(F:Nat→Nat→Int)(m:Nat):∀n,sm (λi=>sm (λj=>F i j) m) n=sm (λj=>sm (λi=>F i j) n) m
 |0=>(nZ λ_ _=>rfl).symm
 |n+1=>by rw[sm,uv F m n,←BV];rfl
def MO{f:Nat→Int}:∀{n:Nat},(∀i,i<n→0≤f i)→0≤sm f n
 |0,_=>jH _
 |n+1,h=>by
  have h1:=MO (f:=f) (n:=n) λi hi=>h i af
  have h2:=h n af;rw[sm];omega
def IF{f g:Nat→Int}:∀{n:Nat},(∀i,i<n→f i≤g i)→sm f n≤sm g n
 |0,_=>jH _
 |n+1,h=>by
  have h1:=IF (f:=f) (g:=g) (n:=n) λi hi=>h i af
  have h2:=h n af;rw[sm,sm];omega
def MQ{f:Nat→Int}{a n:Nat}(ha:a<n)(h:∀i,i<n→0≤f i):f a≤sm f n:=by
 have e:sm (λi=>if i=a then f a else 0) n=f a:=(AD ha λi _ hi=>aq hi).trans (aw ae);rw[←e];refine IF λi hi=>?_
 split
 ·rename_i e;subst e;exact jH _
 ·exact h i hi
def s2(k l:Nat)(F:Nat→Nat→Int):Int:=sm (λa=>sm (λe=>F a e) (l+1)) (k+1)
def vG{k l:Nat}{F G:Nat→Nat→Int}(h:∀a e,a≤k→e≤l→F a e=G a e):s2 k l F=s2 k l G:=fT λa ha=>fT λe he=>h a e af af
def xj(k l:Nat)(c:Int)(F:Nat→Nat→Int):s2 k l (λa e=>c*F a e)=c*s2 k l F:=by unfold s2;rw[←ua];exact fT λa _=>ua _ _ _
def Ts(k l:Nat)(c:Int)(F:Nat→Nat→Int):s2 k l (λa e=>F a e*c)=s2 k l F*c:=by rw[fc,←xj];exact vG λ_ _ _ _=>fc _ _
def MR(k l k' l':Nat)(F:Nat→Nat→Nat→Nat→Int):s2 k l (λa e=>s2 k' l' (λt s=>F a e t s))=s2 k' l' (λt s=>s2 k l (λa e=>F a e t s)):=by
 unfold s2;have h1:∀a,sm (λe=>sm (λt=>sm (λs=>F a e t s) (l'+1)) (k'+1)) (l+1)=sm (λt=>sm (λs=>sm (λe=>F a e t s) (l+1)) (l'+1)) (k'+1):=λa=>by rw[uv];exact fT λt _=>uv _ _ _
 rw[fT λa _=>h1 a,uv];exact fT λt _=>uv _ _ _
def al9{k l:Nat}{F G:Nat→Nat→Int}(h:∀a e,a≤k→e≤l→F a e≤G a e):s2 k l F≤s2 k l G:=IF λa ha=>IF λe he=>h a e af af
def al'{k l:Nat}{F:Nat→Nat→Int}{a e:Nat}(ha:a≤k)(he:e≤l)(h:∀a e,a≤k→e≤l→0≤F a e):F a e≤s2 k l F:=by refine uN (MQ (f:=λe=>F a e) (a:=e) (n:=l+1) af λi hi=>h a i ha af) ?_;exact MQ (f:=λa=>sm (λe=>F a e) (l+1)) (a:=a) (n:=k+1) af λi hi=>MO λj hj=>h i j af af
def ama{k l:Nat}{F:Nat→Nat→Int}{a e:Nat}(ha:a≤k)(he:e≤l)(h:∀i j,i≤k→j≤l→¬(i=a∧j=e)→F i j=0):s2 k l F=F a e:=by unfold s2;rw[AD (a:=a) af λi hi aN=>nZ λj hj=>h i j af af λhh=>aN hh.1];exact AD (f:=λe=>F a e) (a:=e) af λj hj aN=>h a j ha af λhh=>aN hh.2
def eta(t s a e:Nat):Int:=if t≤a∧s≤e∧a-t=e-s then((ch a t*ch e s*bO (a-t):Nat):Int)else 0
def abG{k l a e a' f:Nat}(ha:a≤k)(he:e≤l)(sy:a'≤k)(hf:f≤l):(if a+f=a'+e then((bO (a+f):Nat):Int)else 0)=s2 k l (λt s=>((bO t*bO s:Nat):Int)*(eta t s a e*eta t s a' f)):=by
 by_cases h:a+f=a'+e
 ·rw[aw h,h,←vF a' e,←h,Tr f a a',gq,abF];have e1:sm (λt=>((ch a t*ch f (a'-t):Nat):Int)) (a'+1)=sm (λt=>((ch a t*ch f (a'-t):Nat):Int)*(if t≤a' then 1 else 0)) (k+1):=by
   have e2:∀n,a'≤n→sm (λt=>((ch a t*ch f (a'-t):Nat):Int)*(if t≤a' then 1 else 0)) (n+1)=sm (λt=>((ch a t*ch f (a'-t):Nat):Int)) (a'+1):=λn hn=>by
    induction n with
    |zero=>
     have:a'=0:=af
     subst this
     exact fT λi hi=>by rw[aw af,nm]
    |succ n ih=>
     by_cases e3:a'≤n
     ·rw[sm,ih e3,aq af,eo,nl]
     ·have:a'=n+1:=by omega
      subst this;exact fT λi hi=>by rw[aw af,nm]
   exact(e2 k sy).symm
  rw[e1,←Rv];unfold s2;refine fT λt ht=>?_
  by_cases h1:t≤a'∧t≤a∧a-t≤e
  ·obtain⟨h1,h2,h3⟩:=h1;rw[aw h1,nm];rw[AD (a:=e-(a-t)) af λs hs aN=>?_]
   ·have c1:t≤a∧e-(a-t)≤e∧a-t=e-(e-(a-t)):=by omega
    have c2:t≤a'∧e-(a-t)≤f∧a'-t=f-(e-(a-t)):=af;dsimp only;rw[eta,aw c1,eta,aw c2];have f1:=vF t (a-t);have f2:=vF (e-(a-t)) (a-t);have f3:=vF t (a'-t);have f4:=vF (e-(a-t)) (a'-t);have f5:=vF (a'-t) (e-(a-t));rw[show t+(a-t)=a by omega]at f1;rw[show e-(a-t)+(a-t)=e by omega]at f2;rw[show t+(a'-t)=a' by omega]at f3;rw[show e-(a-t)+(a'-t)=f by omega]at f4;rw[show a'-t+(e-(a-t))=f by omega]at f5;have key:ch a t*ch f (a'-t)*(bO a'*bO e)=bO t*bO (e-(a-t))*(ch a t*ch e (e-(a-t))*bO (a-t)*(ch a' t*ch f (e-(a-t))*bO (a'-t))):=by rw[←f3,←f2];have f6:ch f (a'-t)*(bO (a'-t)*bO (e-(a-t)))=ch f (e-(a-t))*(bO (e-(a-t))*bO (a'-t)):=f5.trans f4.symm;have e7:ch a t*ch f (a'-t)*(ch a' t*(bO t*bO (a'-t))*(ch e (e-(a-t))*(bO (e-(a-t))*bO (a-t))))=ch a t*ch a' t*bO t*ch e (e-(a-t))*bO (a-t)*(ch f (a'-t)*(bO (a'-t)*bO (e-(a-t)))):=kI;rw[e7,f6];ac_rfl
    rw[←gq,←gq,←gq,key]
   ·have:¬(t≤a∧s≤e∧a-t=e-s):=by omega
    dsimp only;rw[eta,aq this,kJ,eo]
  ·have z1:((ch a t*ch f (a'-t):Nat):Int)*(if t≤a' then 1 else 0)=0:=by
    by_cases h2:t≤a'
    ·by_cases h3:t≤a
     ·rw[Af f (a'-t) af,J6];simp
     ·rw[Af a t af,A5];simp
    ·rw[aq h2,eo]
   rw[z1,kJ];refine(nZ λs hs=>?_).symm;by_cases c1:t≤a∧s≤e∧a-t=e-s
   ·have:¬(t≤a'∧s≤f∧a'-t=f-s):=by omega
    dsimp only;rw[show eta t s a' f=0 by rw[eta,if_neg this],Int.mul_zero,Int.mul_zero]
   ·dsimp only;rw[eta,if_neg c1,Int.zero_mul,Int.mul_zero]
 ·rw[aq h];unfold s2;refine(nZ λt ht=>nZ λs hs=>?_).symm;by_cases c1:t≤a∧s≤e∧a-t=e-s
  ·have:¬(t≤a'∧s≤f∧a'-t=f-s):=by omega
   dsimp only;rw[show eta t s a' f=0 by rw[eta,if_neg this],Int.mul_zero,Int.mul_zero]
  ·dsimp only;rw[eta,if_neg c1,Int.zero_mul,Int.mul_zero]
def abH(t s:Nat):eta t s t s=1:=by rw[eta,aw af,HA,HA,iG];rfl
def Cu(x:Int):0≤x*x:=by
 rcases Int.le_total 0 x with h|h
 ·exact j4 h h
 ·have:=j4 (a:= -x) (b:= -x) af af;rwa[Int.neg_mul_neg]at this
def amb(k l:Nat)(y:Nat→Nat→Int):
  s2 k l (λt s=>((bO t*bO s:Nat):Int)*((bO (k-t)*bO (l-s):Nat):Int)*(y t s*y t s))≤
  s2 k l (λa e=>s2 k l (λa' f=>y a e*y a' f*((if a+f=a'+e then((bO (a+f):Nat):Int)else 0)*(if(k-a)+(l-f)=(k-a')+(l-e)then((bO ((k-a)+(l-f)):Nat):Int)else 0)))):=by
 have e1:s2 k l (λa e=>s2 k l (λa' f=>y a e*y a' f*((if a+f=a'+e then((bO (a+f):Nat):Int)else 0)*(if(k-a)+(l-f)=(k-a')+(l-e)then((bO ((k-a)+(l-f)):Nat):Int)else 0))))=
   s2 k l (λt s=>s2 k l (λt' s'=>((bO t*bO s:Nat):Int)*((bO t'*bO s':Nat):Int)*(s2 k l (λa e=>y a e*(eta t s a e*eta t' s' (k-a) (l-e)))*s2 k l (λa e=>y a e*(eta t s a e*eta t' s' (k-a) (l-e)))))):=by
  have e2:∀a e,a≤k→e≤l→s2 k l (λa' f=>y a e*y a' f*((if a+f=a'+e then((bO (a+f):Nat):Int)else 0)*(if(k-a)+(l-f)=(k-a')+(l-e)then((bO ((k-a)+(l-f)):Nat):Int)else 0)))=s2 k l (λt s=>s2 k l (λt' s'=>((bO t*bO s:Nat):Int)*((bO t'*bO s':Nat):Int)*(y a e*(eta t s a e*eta t' s' (k-a) (l-e))*s2 k l (λa e=>y a e*(eta t s a e*eta t' s' (k-a) (l-e)))))):=by
   intro a e ha he;have e3:∀a' f,a'≤k→f≤l→y a e*y a' f*((if a+f=a'+e then((bO (a+f):Nat):Int)else 0)*(if(k-a)+(l-f)=(k-a')+(l-e)then((bO ((k-a)+(l-f)):Nat):Int)else 0))=s2 k l (λt s=>s2 k l (λt' s'=>((bO t*bO s:Nat):Int)*((bO t'*bO s':Nat):Int)*(y a e*(eta t s a e*eta t' s' (k-a) (l-e))*(y a' f*(eta t s a' f*eta t' s' (k-a') (l-f)))))):=by
    intro a' f sy hf;rw[abG ha he sy hf,abG (k:=k) (l:=l) (a:=k-a) (e:=l-e) (a':=k-a') (f:=l-f) af af af af,←Ts,←xj];refine vG λt s _ _=>?_
    rw[←xj,←xj];refine vG λt' s' _ _=>?_
    ac_rfl
   rw[vG e3,MR];refine vG λt s _ _=>?_
   rw[MR];refine vG λt' s' _ _=>?_
   rw[←xj,←xj]
  rw[vG e2,MR]
  refine vG λt s _ _=>?_
  rw[MR]
  refine vG λt' s' _ _=>?_
  rw[xj,Ts]
 rw[e1]
 refine al9 λt s ht hs=>?_
 refine uN (Int.le_of_eq ?_) (al' (k:=k) (l:=l) (a:=k-t) (e:=l-s) af af λt' s' _ _=>j4 (j4 (nO _) (nO _)) (Cu _))
 have e4:s2 k l (λa e=>y a e*(eta t s a e*eta (k-t) (l-s) (k-a) (l-e)))=y t s:=by
  rw[ama ht hs λi j hi hj aN=>?_]
  ·rw[abH,abH,nm,nm]
  ·by_cases c1:t≤i∧s≤j∧i-t=j-s
   ·have:¬(k-t≤k-i∧l-s≤l-j∧k-i-(k-t)=l-j-(l-s)):=by omega
    rw[show eta (k-t) (l-s) (k-i) (l-j)=0 by rw[eta,aq this],eo,eo]
   ·rw[eta,aq c1,kJ,eo]
 rw[e4]
def Bw(n:Nat)(A:Nat→Int):Int:=sm (λi=>((bO i*bO (n-i):Nat):Int)*(A i*A i)) (n+1)
def amc{A B:PS}{k l i:Nat}(hA:∀j,k<j→A j=0)(hB:∀j,l<j→B j=0):(A*B) i=s2 k l (λa f=>if a+f=i then A a*B f else 0):=by
 rw[PS.gN];unfold s2;have h1:∀a,a≤i→A a*B (i-a)=sm (λf=>if a+f=i then A a*B f else 0) (l+1):=λa ha=>by
  by_cases e:i-a≤l
  ·rw[AD (a:=i-a) af λf _ aN=>aq af,aw af]
  ·rw[hB (i-a) af,eo];exact(nZ λf hf=>aq af).symm
 rw[fT λa ha=>h1 a af];have h2:∀n,(∀a,n≤a→sm (λf=>if a+f=i then A a*B f else 0) (l+1)=0)→∀d,sm (λa=>sm (λf=>if a+f=i then A a*B f else 0) (l+1)) (n+d)=sm (λa=>sm (λf=>if a+f=i then A a*B f else 0) (l+1)) n:=λn hn d=>by
  induction d with
  |zero=>rfl
  |succ d ih=>rw[←tA,sm,ih,hn _ af,nl]
 have z1:∀a,i+1≤a→sm (λf=>if a+f=i then A a*B f else 0) (l+1)=0:=λa ha=>nZ λf _=>aq af
 have z2:∀a,k+1≤a→sm (λf=>if a+f=i then A a*B f else 0) (l+1)=0:=λa ha=>nZ λf _=>by rw[hA a af,kJ,ite_self]
 have h3:=h2 _ z1 (k+1);have h4:=h2 _ z2 (i+1);rw[←h3,←h4];congr 1;omega
def amd{A B:PS}{k l:Nat}(hA:∀j,k<j→A j=0)(hB:∀j,l<j→B j=0):Bw k A*Bw l B≤Bw (k+l) (A*B):=by
 have h1:=amb k l (λa e=>A a*B e);have e1:s2 k l (λt s=>((bO t*bO s:Nat):Int)*((bO (k-t)*bO (l-s):Nat):Int)*(A t*B s*(A t*B s)))=Bw k A*Bw l B:=by
  unfold Bw s2;rw[←Rv];refine fT λt _=>?_
  rw[←ua];refine fT λs _=>?_
  simp only[gq];ac_rfl
 rw[e1]at h1;refine uN h1 (Int.le_of_eq ?_);have e2:Bw (k+l) (A*B)=s2 k l (λa f=>s2 k l (λa' e=>A a*B f*(A a'*B e)*(if a+f=a'+e then((bO (a+f)*bO (k+l-(a+f)):Nat):Int)else 0))):=by
  unfold Bw;have e3:∀i,i<k+l+1→((bO i*bO (k+l-i):Nat):Int)*((A*B) i*(A*B) i)=s2 k l (λa f=>s2 k l (λa' e=>A a*B f*(A a'*B e)*(if a+f=i then(if a'+e=i then((bO i*bO (k+l-i):Nat):Int)else 0)else 0))):=λi _=>by
   rw[amc hA hB,←Ts,←xj];refine vG λa f _ _=>?_
   rw[←xj,←xj];refine vG λa' e _ _=>?_
   by_cases c1:a+f=i
   ·by_cases c2:a'+e=i
    ·rw[aw c1,aw c1,aw c2,aw c2,fc]
    ·rw[aq c2,aq c2,ite_self];simp only[eo]
   ·rw[aq c1,aq c1,kJ,eo,eo]
  rw[fT e3];unfold s2;rw[uv];refine fT λa ha=>?_
  rw[uv];refine fT λf hf=>?_
  rw[uv];refine fT λa' sy=>?_
  rw[uv];refine fT λe he=>?_
  rw[ua];congr 1;rw[AD (a:=a+f) af λi _ aN=>aq λh=>aN h.symm,aw ae];by_cases c:a+f=a'+e
  ·rw[aw c.symm,aw c]
  ·rw[aq λh=>c h.symm,aq c]
 rw[e2];unfold s2;refine fT λa ha=>?_
 have e4:∀(G:Nat→Nat→Nat→Int),sm (λe=>sm (λa'=>sm (λf=>G e a' f) (l+1)) (k+1)) (l+1)=sm (λf=>sm (λa'=>sm (λe=>G e a' f) (l+1)) (k+1)) (l+1):=λG=>by
  rw[uv];have e5:sm (λa'=>sm (λe=>sm (λf=>G e a' f) (l+1)) (l+1)) (k+1)=sm (λa'=>sm (λf=>sm (λe=>G e a' f) (l+1)) (l+1)) (k+1):=fT λa' _=>uv _ _ _
  rw[e5,uv]
 rw[e4];refine fT λf hf=>fT λa' sy=>fT λe he=>?_
 by_cases c:a+f=a'+e
 ·dsimp only;rw[aw c,aw af,aw c,←gq,show k-a+(l-f)=k+l-(a+f)by omega];ac_rfl
 ·dsimp only;rw[aq c,aq c,kJ,eo,eo]
def abI{P:Nat→Prop}:∀n,P n→∃m,P m∧∀k,k<m→¬P k:=by
 intro n;induction n using Nat.strongRecOn with
 |ind n ih=>
  intro h
  by_cases e:∃k,k<n∧P k
  ·obtain⟨k,h1,h2⟩:=e;exact ih k h1 h2
  ·exact⟨n,h,λk hk hp=>e ⟨k,hk,hp⟩⟩
def ame{k:Nat}(h:2≤k):∃q,dH q∧q∣k:=by
 obtain⟨m,⟨h1,h2⟩,h3⟩:=abI (P:=λd=>2≤d∧d∣k) k ⟨h,Nat.dvd_refl k⟩;refine⟨m,⟨h1,λd hd qv hz=>?_⟩,h2⟩;have bh:d<m:=by have:d*2≤d*d:=lE d hd;omega
 exact h3 d bh ⟨hd,O1 (uI hz) h2⟩
def abJ(f:Nat→Int):∀k,((sm f k:Int):Rat)=sq (λi=>(f i:Rat)) k
 |0=>rfl
 |k+1=>by rw[sm,sq,Rat.intCast_add,abJ f k]
namespace Rx
def eD(A:Rx):Prop:=∀i,A i=((A i).num:Rat)
def nu(A:Rx):PS:=λi=>(A i).num
def eD.of{A:Rx}(h:∀i,∃z:Int,A i=(z:Rat)):eD A:=λi=>by obtain⟨z,hz⟩:=h i;rw[hz];rfl
def eD.at{A:Rx}(h:eD A)(i:Nat):A i=((nu A i:Int):Rat):=h i
def eD.mul'{A B:Rx}(hA:eD A)(hB:eD B)(i:Nat):(A*B) i=(((nu A*nu B) i:Int):Rat):=by rw[PS.gN,abJ,gN];exact vC λj _=>by rw[hA.at,hB.at,iW]
def eD.mul{A B:Rx}(hA:eD A)(hB:eD B):eD (A*B):=eD.of λi=>⟨_,hA.mul' hB i⟩
def MS{A B:Rx}(hA:eD A)(hB:eD B):nu (A*B)=nu A*nu B:=PS.ext λi=>by show((A*B) i).num=_;rw[hA.mul' hB i];rfl
def eD.K(z:Int):eD (K (z:Rat)):=eD.of λi=>by
 rw[qQ];split
 ·exact⟨z,ae⟩
 ·exact⟨0,ae⟩
def Tt{A:Rx}{i:Nat}(h:sz A≤i):nu A i=0:=by show(A i).num=0;rw[oa h];rfl
def eD.sub{A B:Rx}(hA:eD A)(hB:eD B):eD (A-B):=eD.of λi=>⟨nu A i-nu B i,by rw[yn,hA.at,hB.at,J1]⟩
def IG(r:Rat):((r.den:Nat):Rat)*r=(r.num:Rat):=by
 have h:=oW r;rw[OR,Rat.div_def,tu]at h;have h1:=ou _ (AB (V4.1 r.den_pos));have h2:((r.den:Nat):Rat)*r=((r.den:Nat):Rat)*((r.num:Rat)*((r.den:Nat):Rat)⁻¹):=by rw[h]
 rw[h2];grind
def amf(A:Rx):∃D:Nat,0<D∧eD (K ((D:Nat):Rat)*A):=by
 have key:∀n,∃D:Nat,0<D∧∀i,i<n→∃z:Int,(D:Rat)*A i=(z:Rat):=by
  intro n;induction n with
  |zero=>exact⟨1,by decide,λi h=>absurd h af⟩
  |succ n ih=>
   obtain⟨D,h1,h2⟩:=ih
   refine⟨D*(A n).den,zj h1 (A n).den_pos,λi hi=>?_⟩
   by_cases e:i=n
   ·subst e;refine⟨(D:Int)*(A i).num,?_⟩;rw[iW,xE,uL,IG];rfl
   ·obtain⟨z,hz⟩:=h2 i af;refine⟨z*((A n).den:Int),?_⟩;rw[iW,←hz,xE,tu];grind
 obtain⟨n,hn⟩:=A.fin;obtain⟨D,h1,h2⟩:=key n;refine⟨D,h1,eD.of λi=>?_⟩;rw[iA];by_cases e:i<n
 ·exact h2 i e
 ·exact⟨0,by rw[hn i af,jG];rfl⟩
structure Dn(A:Rx)(m:Nat):Prop where
 pos:0<m
 int:eD (K ((m:Nat):Rat)*A)
 dvd:∀d:Nat,eD (K ((d:Nat):Rat)*A)→m∣d
def IH(A:Rx):∃m,Dn A m:=by
 obtain⟨D,h1,h2⟩:=amf A;obtain⟨m,⟨h3,h4⟩,h5⟩:=abI (P:=λd=>0<d∧eD (K ((d:Nat):Rat)*A)) D ⟨h1,h2⟩;refine⟨m,h3,h4,λd hd=>?_⟩;refine uI (gn λaN=>?_);refine h5 (d%m) (iq _ h3) ⟨by omega,?_⟩;have e:K ((d%m:Nat):Rat)*A=K ((d:Nat):Rat)*A-K (((d/m:Nat):Int):Rat)*(K ((m:Nat):Rat)*A):=by
  have e1:((d:Nat):Rat)=((d/m:Nat):Rat)*((m:Nat):Rat)+((d%m:Nat):Rat):=by rw[←xE,←OX,g9,xD]
  rw[←mul_assoc,←gA,←sub_mul,←Ey,e1,tu];congr 2;grind
 rw[e];exact hd.sub ((eD.K _).mul h4)
def Dn.abK{A:Rx}(hA:Mo A){m:Nat}(h:Dn A m){q:Nat}(hq:dH q):¬∀i,nu (K ((m:Nat):Rat)*A) i%(q:Int)=0:=λhz=>by
 have h2:=hq.1;obtain⟨n,hn⟩:=E7 hA.ne;have ht:nu (K ((m:Nat):Rat)*A) n=(m:Int):=by show((K ((m:Nat):Rat)*A) n).num=_;rw[iA,hA.at hn,Bb];rfl
 have hd:q∣m:=C8.1 (ht▸C7 (hz n));obtain⟨k,hk⟩:=hd;have gM:0<k:=by
  have:=h.pos;rcases wb k with e|e
  ·subst e;omega
  ·exact e
 have hI:eD (K ((k:Nat):Rat)*A):=eD.of λi=>by obtain⟨w,hw⟩:=C7 (hz i);refine⟨w,?_⟩;have h3:=h.int.at i;rw[hw,iA,hk,xE,iW,tu]at h3;rw[iA];have h4:=ou _ (AB (show q≠0 by omega));have h5:=az (λx=>((q:Nat):Rat)⁻¹ *x) h3;rw[←uL,←uL,←uL,h4]at h5;rw[zm,zm]at h5;exact h5
 have:=rf gM (h.dvd k hI);have:2*k≤q*k:=dY k h2;omega
def abL{P E:Rx}(hP:Mo P)(hE:Mo E){a b c:Nat}(ha:Dn P a)(hb:Dn E b)(hc:Dn (P*E) c):c=a*b:=by
 have hI:eD (K ((a:Nat):Rat)*P*(K ((b:Nat):Rat)*E)):=ha.int.mul hb.int;have e1:K ((a:Nat):Rat)*P*(K ((b:Nat):Rat)*E)=K ((a*b:Nat):Rat)*(P*E):=by rw[xE,gA];ac_rfl
 obtain⟨k,hk⟩:=hc.dvd (a*b) (e1▸hI);by_cases fX:k=1
 ·subst fX;omega
 have kK:=zj ha.pos hb.pos;have gM:0<k:=by
  rcases wb k with e|e
  ·subst e;omega
  ·exact e
 obtain⟨q,hq,yF⟩:=ame (k:=k) af;have hz:∀i,(nu (K ((a:Nat):Rat)*P)*nu (K ((b:Nat):Rat)*E)) i%(q:Int)=0:=λi=>by have h1:=ha.int.mul' hb.int i;rw[e1,hk,xE,gA,mul_comm (K _) (K _),mul_assoc,iA,hc.int.at i,←tu,←iW]at h1;rw[←Dh.1 h1];exact C6 (J3 (C8.2 yF) (Wc _ _))
 have dl:∀A:Rx,Dl (q:Int) (sz A) (nu A):=λA i hi=>by rw[Tt hi,df]
 rcases B1 (dl (K ((a:Nat):Rat)*P))with h1|⟨d,_,d1,d2⟩
 ·exact absurd (λi=>by have:=h1.at i;rwa[PS.lR,df]at this) (ha.abK hP hq)
 rcases B1 (dl (K ((b:Nat):Rat)*E))with h1|⟨e,_,f1,f2⟩
 ·exact absurd (λi=>by have:=h1.at i;rwa[PS.lR,df]at this) (hb.abK hE hq)
 exact absurd (hz (d+e)) (Go.El.yp hq d2 f2 d1 f1)
def vH(n:Nat)(A:PS):Int:=sm (λi=>((A i).natAbs:Int)) (n+1)
def abM(f:Nat→Int):∀n,(∀i,0≤f i)→sm (λi=>f i*f i) n≤sm f n*sm f n
 |0,_=>by simp[sm]
 |n+1,h=>by
  have ih:=abM f n h;have h1:=MO (f:=f) (n:=n) λi _=>h i
  have h2:=j4 h1 (h n);rw[sm,sm,lF,oX,oX,fc (f n) (sm f n)];omega
def amg(n:Nat)(A:PS):Bw n A≤((bO n:Nat):Int)*(vH n A*vH n A):=by
 unfold Bw vH;have h1:=abM (λi=>((A i).natAbs:Int)) (n+1) (λ_=>nO _);refine uN ?_ (ju h1 (nO _));rw[←ua];refine IF λi hi=>?_
 have h2:bO i*bO (n-i)≤bO n:=by
  have h3:=vF i (n-i);rw[show i+(n-i)=n by omega]at h3;have h4:0<ch n i:=by
   rcases wb (ch n i)with e|e
   ·rw[e,A5]at h3;have:=IE n;omega
   ·exact e
  rw[←h3];exact Nat.le_mul_of_pos_left _ h4
 have h5:((A i).natAbs:Int)*((A i).natAbs:Int)=A i*A i:=by rw[←gq,Int.natAbs_mul_self]
 rw[h5];exact jD (O8.2 h2) (Cu _)
def abN(n:Nat):∀k,ch n k≤2^n:=by
 induction n with
 |zero=>
  intro k
  cases k with
  |zero=>exact bF _
  |succ k=>exact bK _
 |succ n ih=>
  intro k
  have h1:=mh (n:=n) (show 0<2 by decide)
  rw[iX]
  cases k with
  |zero=>rw[sZ];omega
  |succ k=>
   have:=ih k
   have:=ih (k+1)
   rw[ch];omega
def amh{x y:Int}(hy:0≤y)(h:x*x≤y*y):(x.natAbs:Int)≤y:=by
 refine gn λhn=>?_
 have h1:((x.natAbs:Int))*x.natAbs=x*x:=by rw[←gq,Int.natAbs_mul_self]
 have h2:y<x.natAbs:=af;have h3:y*y<(x.natAbs:Int)*x.natAbs:=by have h4:=ju (a:=y) (show y≤(x.natAbs:Int)by omega) hy;have h5:=JN h2 (show(0:Int)<x.natAbs by omega);omega
 omega
def abO{A B:PS}{k l:Nat}(hA:∀j,k<j→A j=0)(hB:∀j,l<j→B j=0)(hb:B l≠0)(i:Nat):((A i).natAbs:Int)≤2^(k+l)*vH (k+l) (A*B):=by
 have DB:0≤vH (k+l) (A*B):=MO λ_ _=>nO _
 have cK:(0:Int)≤2^(k+l):=A8 (sn ak);by_cases hi:k<i
 ·rw[hA i hi];exact j4 cK DB
 refine amh (j4 cK DB) ?_;have h1:=uN (amd hA hB) (amg (k+l) (A*B));have h2:((bO l:Nat):Int)≤Bw l B:=by
  have:=MQ (f:=λi=>((bO i*bO (l-i):Nat):Int)*(B i*B i)) (a:=l) (n:=l+1) af λi _=>j4 (nO _) (Cu _)
  refine uN ?_ this;rw[iG,show bO 0=1 from ae,kT];have h3:1≤B l*B l:=by have h4:=Cu (B l);have h5:B l*B l≠0:=J0 hb hb;omega
  have:=ju h3 (nO (bO l));rwa[nm]at this
 have h3:((bO i*bO (k-i):Nat):Int)*(A i*A i)≤Bw k A:=MQ (f:=λi=>((bO i*bO (k-i):Nat):Int)*(A i*A i)) (a:=i) (n:=k+1) af λi _=>j4 (nO _) (Cu _)
 have h4:((bO i*bO (k-i):Nat):Int)*(A i*A i)*((bO l:Nat):Int)≤((bO (k+l):Nat):Int)*(vH (k+l) (A*B)*vH (k+l) (A*B)):=by refine uN ?_ h1;refine uN (ju h2 (j4 (nO _) (Cu _))) ?_;exact jD h3 (uN (nO _) h2)
 have h5:bO (k+l)=bO i*bO (k-i)*bO l*(ch (k+l) k*ch k i):=by have e1:=vF k l;have e2:=vF i (k-i);rw[show i+(k-i)=k by omega]at e2;rw[←e1,←e2];ac_rfl
 have h6:ch (k+l) k*ch k i≤2^(k+l)*2^(k+l):=nk (abN _ _) (dG (abN _ _) (jP ak af));have hG:0<bO i*bO (k-i)*bO l:=zj (zj (IE _) (IE _)) (IE _);generalize vH (k+l) (A*B)=S at*;have h7:((bO i*bO (k-i)*bO l:Nat):Int)*(A i*A i)≤((bO i*bO (k-i)*bO l:Nat):Int)*((2^(k+l)*2^(k+l))*(S*S)):=by
  have e3:((bO i*bO (k-i)*bO l:Nat):Int)*(A i*A i)=((bO i*bO (k-i):Nat):Int)*(A i*A i)*((bO l:Nat):Int):=by rw[gq];ac_rfl
  rw[e3];refine uN h4 ?_;rw[h5,gq,j5];refine ju ?_ (nO _);refine jD ?_ (Cu S);have:=O8.2 h6;rw[gq (2^(k+l)),uK]at this;exact this
 have h8:=Int.le_of_mul_le_mul_left h7 (Int.natCast_pos.2 hG);refine uN h8 (Int.le_of_eq ?_);ac_rfl
end Rx
end Go.El
namespace Go.El
open Go Go.Proofs
def abP{p t:Nat}(hp:2≤p)(ht:1≤t):(p-1)^2^t%p=1:=by
 obtain⟨s,rfl⟩:∃s,t=s+1:=⟨t-1,by omega⟩;rw[iX,g9,zk,Dm];have e:(p-1)^2%p=1:=by obtain⟨m,rfl⟩:∃m,p=m+2:=⟨p-2,by omega⟩;rw[show m+2-1=m+1 by omega,Nat.pow_two,show(m+1)*(m+1)=1+(m+2)*m by simp only[fP,Dk];omega,Nat.add_mul_mod_self_left];exact q9 af
 rw[e,Nat.one_pow];exact q9 af
set_option maxHeartbeats 2000000 in
def ami(p w:Nat)(iJ:3≤p)(jI:p≤2147483647)(m7:p%2=1)(ig:w^(p-1)%p≠1)(Gn:w<18446744073709551616):aG Tryz.prog 122 [cU p,cU w] (cB false):=by
 refine aX Tryz.func122 ae ae ae ae ae ak ?_;refine rr ae (rr ae ?_);refine YD (α:=Nat×Nat) (λx=>⟨[(0,cU p),(1,cU w),(5,cU x.1),(6,cI x.2)],[],20,[]⟩) (λx=>x.1*2^x.2=p-1∧x.2<32∧x.1%2=1) ?_ (λic=>aK (bA (α:=Nat×Nat) (λx=>⟨[(0,cU p),(1,cU w),(5,cU x.1),(6,cI x.2)],[],4,[]⟩) (λx=>x.1*2^x.2=p-1∧0<x.1) (λx=>x.1) (p-1,0) ⟨by simp,by show 0<p-1;omega⟩ (wk ⟨sR ae,sR ae,sE ae ?_,sR ae,ah⟩ ah) ?_))
 ·rintro⟨o,t⟩ ⟨h1,h2,h3⟩;simp only at h1 h2 h3;have ht:1≤t:=by
   by_cases e:t=0
   ·subst e;simp at h1;omega
   ·omega
  have ho:o≤p-1:=by rw[←h1];exact FW _ (mh ak)
  refine rb (rc ae ae (Rm w o p Gn af af af) (re ae ?_));rw[LC w o p af af];have hx:=iq (w^o) (show 0<p by omega);have hf:(w^o%p)^2^t%p≠1:=by rw[←Dm,←zk,h1];exact ig
  generalize w^o%p=x at hx hf;have e1:IntKind.wrap .u64 ((p:Int)-1)=((p-1:Nat):Int):=by rw[wrap_u64 _ af af];omega
  refine aj (rb (rg 23 ae ae (λh=>?_) (λh=>?_)))
  ·exfalso;have h:(x:Int)=1:=eq_of_beq h;have h:x=1:=af;rw[h,Nat.one_pow,q9 af]at hf;exact hf ae
  refine re ae (ax ae (λh4=>?_) (λh4=>aC (ai ?_)))
  ·exfalso;have h4:(x:Int)=IntKind.wrap .u64 ((p:Int)-1):=eq_of_beq h4;rw[e1]at h4;have h4:x=p-1:=af;exact hf (by rw[h4];exact abP af ht)
  refine aj (rr ae (aK (bA (α:=Nat×Nat) (λy=>⟨[(0,cU p),(7,cU y.2),(30,cI ((t:Int)-1)),(31,cI y.1)],[],30,[]⟩) (λy=>y.1≤t-1∧y.2<p∧y.2^2^(t-y.1)%p≠1) (λy=>t-1-y.1) (0,x) ⟨bK _,hx,hf⟩ ck ?_)));rintro⟨i,x⟩ ⟨g1,g2,g5⟩;simp only at g1 g2 g5;have qG:∀j,x^2^(j+1)%p=(x*x%p)^2^j%p:=by intro j;rw[←Dm,←Nat.pow_two,←zk];congr 2;rw[iX,g9]
  refine rr ae (aj (ax ae (λh5=>?_) (λh5=>?_)))
  ·have h5:i<t-1:=by have h5:(i:Int)<(t:Int)-1:=bc h5;omega
   have em:(IntKind.wrap .u64 ((x:Int)*(x:Int))).tmod (p:Int)=((x*x%p:Nat):Int):=Hw x x p g2 g2 af;have g6:(x*x%p)^2^(t-(i+1))%p≠1:=by rw[←qG,show t-(i+1)+1=t-i by omega];exact g5
   refine aC (ai (aj (aK (rr ae (hp:=aR) (rr ae (ax ae (λh6=>?_) (λh6=>aC (a7 (ai ?_)))))))))
   ·exfalso;have h6:(IntKind.wrap .u64 ((x:Int)*(x:Int))).tmod (p:Int)=IntKind.wrap .u64 ((p:Int)-1):=eq_of_beq h6;rw[em,e1]at h6;have h6:x*x%p=p-1:=af;exact g6 (by rw[h6];exact abP af af)
   ·refine rt ae (hp:=aR) (a8 (i+1,x*x%p) ⟨by show i+1≤t-1;omega,iq _ af,g6⟩ (by show t-1-(i+1)<t-1-i;omega) (wk ⟨sR ae,sE ae ?_,sR ae,sR ae,ah⟩ ah));exact az (λz=>AV.c (C.I .u64 z)) em
  ·exact bp (bu (br (bq (ai (rr ae (aF (aL ar ae (au.refl _))))))))
 ·refine az (λz=>AV.c (C.I .u64 z)) ?_;show IntKind.wrap .u64 ((p:Int)-1)=((p-1:Nat):Int);rw[wrap_u64 _ af af];omega
 ·rintro⟨o,t⟩ ⟨h1,h2⟩;simp only at h1 h2;have RF:t<32:=by
   by_cases e:t<32
   ·exact e
   ·have h5:2^32≤2^t:=jP ak af;have h6:1*2^t≤o*2^t:=dY _ h2;omega
  have hob:o≤p-1:=by rw[←h1];exact FW _ (mh ak)
  refine aj (rr ae (hp:=aR) (ax ae (λh=>?_) (λh=>?_)))
  ·have h:(o:Int).tmod 2=0:=eq_of_beq h;have e2:(o:Int).tmod 2=((o%2:Nat):Int):=k7 o 2;refine aC (ai (aK (rr ae (hp:=aR) (rt ae (hp:=aR) (a7 (a8 (o/2,t+1) ⟨?_,by show 0<o/2;omega⟩ (by show o/2<o;omega) (wk ⟨sR ae,sR ae,sE ae ?_,sR ae,ah⟩ ah)))))))
   ·show o/2*2^(t+1)=p-1;rw[←h1,iX,g9 (2^t) 2,←xG];congr 1;omega
   ·exact az (λz=>AV.c (C.I .u64 z)) (BU o af)
  ·have h:(o:Int).tmod 2≠0:=kN h;have e2:(o:Int).tmod 2=((o%2:Nat):Int):=k7 o 2;exact bp (bu (br (bq (my (ic (o,t) ⟨h1,RF,by show o%2=1;omega⟩) ck))))
def amj(n p:Nat)(hn:n<p)(hp:p≤2147483647)(h0:∀m:Nat,n<m→m<p→aG Tryz.prog 60 [cU m] (cB false))(h1:aG Tryz.prog 60 [cU p] (cB true)):aG Tryz.prog 256 [cU n] (.t [(false,[.I .u64 p]),(false,[.I .i64 0])]):=by
 refine aX Tryz.func256 ae ae ae ae ae ak ?_;refine rr ae (aj (rr ae (ax ae (λh=>?_) (λh=>aC (ai ?_)))))
 ·exfalso;have h:(n:Int)≥2147483647:=bc h;omega
 refine rr ae (aj (aK (bA (α:=Nat) (λm=>⟨[(0,cU m)],[],4,[]⟩) (λm=>n<m∧m≤p) (λm=>p-m) (n+1) ⟨fN n,hn⟩ (wk ⟨sE ae ?_,ah⟩ ah) ?_)))
 ·exact az (λz=>AV.c (C.I .u64 z)) (show IntKind.wrap .u64 ((n:Int)+1)=((n+1:Nat):Int)from(wrap_u64 _ af af).trans af)
 rintro m ⟨g1,g2⟩;by_cases e:m=p
 ·subst e;refine aj (rb (rc ae ae h1 (re ae (ax ae (λh=>by cases h) (λ_=>?_)))));exact bp (bu (br (bq (ai (rr ae (aF (aL ar ae (au.refl _))))))))
 ·refine aj (rb (rc ae ae (h0 m g1 af) (re ae (ax ae (λ_=>aC (ai (aK (rt ae (a7 (a8 (m+1) ⟨by omega,by omega⟩ (by show p-(m+1)<p-m;omega) (wk ⟨sE ae ?_,ah⟩ ah))))))) (λh=>by cases h)))));exact az (λz=>AV.c (C.I .u64 z)) (show IntKind.wrap .u64 ((m:Int)+1)=((m+1:Nat):Int)from(wrap_u64 _ af af).trans af)
set_option maxHeartbeats 2000000 in
def amk(n:Nat)(HH:2<n)(hnm:n≤2147483647)(hw:n%2=0∨2^(n-1)%n≠1):aG Tryz.prog 60 [cU n] (cB false):=by
 refine aX Tryz.func60 ae ae ae ae ae ak ?_;refine rr ae (aj (rb (rg 7 ae ae (λh3=>?_) (λh3=>?_))))
 ·exfalso;have h3:(n:Int)<2:=bc h3;omega
 refine re ae (ax ae (λh4=>?_) (λhb=>aC (ai ?_)))
 ·exact rr ae (aF (bW (aL ar ae (au.refl _))))
 refine aj (rb (rx ae ae ah (re ae ?_)));refine aK (bA (α:=Unit) (λ_=>⟨[(0,cU n),(11,.a [.I .u64 2,.I .u64 3,.I .u64 5,.I .u64 7]),(12,cI 0)],[],8,[]⟩) (λ_=>True) (λ_=>0) () ah ck ?_);rintro- -;refine rr ae (aj (ax ae (λ_=>aC (ai ?_)) (λh=>by cases h)));refine aj (aK (rb (rx ae ae ?_ (re ae (aj (rr ae (hp:=aR) ?_))))))
 ·exact⟨by show(0:Int)≤_;decide,by show(_:Int)<_;decide⟩
 refine ax ae (λh=>?_) (λh=>aC (ai ?_))
 ·refine rr ae (aF ?_);repeat(first|refine bW ?_|refine fC ?_|refine ix ?_)
  refine aL ar ae (au.of_eq (az cB ?_));show((n:Int)==2)=false;exact beq_eq_false_iff_ne.2 af
 ·have h:(n:Int).tmod 2≠0:=kN h;have h8:(n:Int).tmod 2=((n%2:Nat):Int):=k7 n 2;have m7:n%2=1:=af;have hw:2^(n-1)%n≠1:=by
   rcases hw with hw|hw
   ·omega
   ·exact hw
  refine rb (rc ae ae (ami n 2 af hnm m7 hw ak) (re ae (ax ae (λ_=>?_) (λh=>by cases h))));refine rr ae (aF ?_);repeat(first|refine bW ?_|refine fC ?_|refine ix ?_)
  exact aL ar ae (au.refl _)
def gD:List Nat:=[1073741827,1073741831,1073741833,1073741839,1073741843,1073741857,1073741891,1073741909,1073741939,1073741953,1073741969,1073741971,
 1073741987,1073741993,1073742037,1073742053,1073742073,1073742077,1073742091,1073742113,1073742169,1073742203,1073742209,1073742223,
 1073742233,1073742259,1073742277,1073742289,1073742343,1073742353,1073742361,1073742391,1073742403,1073742463,1073742493,1073742517,
 1073742583,1073742623,1073742653,1073742667,1073742671,1073742673,1073742707,1073742713,1073742721,1073742731,1073742767,1073742773,
 1073742811,1073742851,1073742853,1073742881,1073742889,1073742913,1073742931,1073742937,1073742959,1073742983,1073743007,1073743037,
 1073743049,1073743051,1073743079,1073743091,1073743093,1073743123,1073743129,1073743141,1073743159,1073743163,1073743189,1073743199,
 1073743207,1073743243,1073743291,1073743303,1073743313,1073743327,1073743331,1073743337,1073743381,1073743387,1073743393,1073743397,
 1073743403,1073743417,1073743421,1073743427,1073743457,1073743459,1073743469,1073743501,1073743507,1073743513,1073743543,1073743577,
 1073743591,1073743633,1073743739,1073743757,1073743831,1073743861,1073743871]
def II:Nat→Nat→Nat
 |0,l=>l+1
 |d+1,l=>II d (2*l)*II d (2*l+1)
def Tu:∀(d l x:Nat),x<2^d→2^d*l+x+1∣II d l
 |0,l,x,h=>by have:x=0:=cd;subst this;rw[xI,iZ,j6];exact Nat.dvd_refl _
 |d+1,l,x,h=>by
  rw[iX]at h⊢;by_cases e:x<2^d
  ·have:=Tu d (2*l) x e;rw[show 2^d*(2*l)=2^d*2*l by ac_rfl]at this;exact Nat.dvd_mul_right_of_dvd this _
  ·have:=Tu d (2*l+1) (x-2^d) af;rw[show 2^d*(2*l+1)+(x-2^d)=2^d*2*l+x by rw[Dk,show 2^d*(2*l)=2^d*2*l by ac_rfl];omega]at this;exact Nat.dvd_mul_left_of_dvd this _
def yH(l:List Nat):Nat:=l.foldr (·*·) 1
def aml{l:List Nat}{x:Nat}(h:x∈l):x∣yH l:=by
 induction l with
 |nil=>cases h
 |cons y l ih=>
  rcases dx.1 h with rfl|h
  ·exact Nat.dvd_mul_right _ _
  ·exact Nat.dvd_mul_left_of_dvd (ih h) _
def amm:Nat.gcd (yH gD) (II 15 0)=1:=gI
def amn:(gD.all λp=>Nat.blt 1073741824 p&&Nat.blt p 1073743872)=true:=gI
def vI{p:Nat}(h:p∈gD):1073741824<p∧p<1073743872:=by have:=wg.1 amn p h;rw[eQ]at this;exact⟨cT this.1,cT this.2⟩
def MU{p:Nat}(h:p∈gD):dH p:=by
 obtain⟨h1,h2⟩:=vI h;refine⟨by omega,λd hd IJ hz=>?_⟩;have h3:d≤32768:=by
  by_cases e:d≤32768
  ·exact e
  ·have:=nk (show 32769≤d by omega) (show 32769≤d by omega);omega
 have h4:d∣II 15 0:=by have:=Tu 15 0 (d-1) (by show d-1<32768;omega);rwa[J6,eR,show d-1+1=d by omega]at this
 have h5:d∣yH gD:=O1 (uI hz) (aml h);have h6:=Nat.dvd_gcd h5 h4;rw[amm]at h6;have:=rf ak h6;omega
end Go.El
namespace Go.El
def Tv:∀(b a:Nat)(f:Nat→Nat),b<a→(∀i,i<a→f i<b)→∃i j,i<j∧j<a∧f i=f j
 |0,a,f,h,hf=>absurd (hf 0 h) af
 |b+1,a,f,h,hf=>by
  by_cases e:∃i,i<a∧f i=b
  ·obtain⟨i0,h1,h2⟩:=e;by_cases e2:∃i,i<a∧i≠i0∧f i=b
   ·obtain⟨i1,h3,h4,h5⟩:=e2;rcases V7 h4 with h6|h6
    ·exact⟨i1,i0,h6,h1,by rw[h5,h2]⟩
    ·exact⟨i0,i1,h6,h3,by rw[h5,h2]⟩
   ·have aN:∀i,i<a→i≠i0→f i<b:=λi hi hn=>by
     have:=hf i hi;have:f i≠b:=λe=>e2 ⟨i,hi,hn,e⟩
     omega
    obtain⟨i,j,h3,h4,h5⟩:=Tv b (a-1) (λi=>if i<i0 then f i else f (i+1)) af λi hi=>by
     split
     ·exact aN i af af
     ·exact aN (i+1) af af
    refine⟨if i<i0 then i else i+1,if j<i0 then j else j+1,?_,?_,?_⟩
    ·split<;>split<;>omega
    ·split<;>omega
    ·split<;>split<;>simp_all
  ·exact Tv b a f af λi hi=>by
    have:=hf i hi;have:f i≠b:=λh'=>e ⟨i,hi,h'⟩
    omega
def abQ{K:Nat}(hK:0<K):∀(C i j:Nat),i<K^C→j<K^C→(∀c,c<C→i/K^c%K=j/K^c%K)→i=j
 |0,i,j,hi,hj,_=>by rw[xI]at hi hj;omega
 |C+1,i,j,hi,hj,h=>by
  have h0:=h 0 af;rw[xI,Nat.div_one,Nat.div_one]at h0;have h1:=abQ hK C (i/K) (j/K) (OJ (by rwa[iX,g9]at hi)) (OJ (by rwa[iX,g9]at hj)) λc hc=>by have:=h (c+1) af;rwa[iX,g9,←VX,←VX]at this
  rw[←xD i K,←xD j K,h0,h1]
def code(K:Nat)(v:Nat→Nat):Nat→Nat
 |0=>0
 |r+1=>code K v r+v r*K^r
def MV{K:Nat}(v:Nat→Nat):∀R,(∀r,r<R→v r<K)→code K v R<K^R
 |0,_=>Nat.one_pos
 |R+1,h=>by
  have h1:=MV v R λr hr=>h r af
  have h2:=dY (K^R) (show v R+1≤K from h R af);rw[fP,iZ]at h2;rw[code,iX,g9 (K^R) K];omega
def abR{K:Nat}(v w:Nat→Nat):∀R,(∀r,r<R→v r<K)→(∀r,r<R→w r<K)→code K v R=code K w R→∀r,r<R→v r=w r
 |0,_,_,_,r,hr=>absurd hr af
 |R+1,hv,hw,h,r,hr=>by
  have h1:=MV v R λr hr=>hv r af
  have h2:=MV w R λr hr=>hw r af
  rw[code,code]at h;have oD:0<K^R:=af;have e1:v R=w R:=by
   have a1:(code K v R+v R*K^R)/K^R=v R:=by rw[Nat.add_mul_div_right _ _ oD,Ga h1,eR]
   have a2:(code K w R+w R*K^R)/K^R=w R:=by rw[Nat.add_mul_div_right _ _ oD,Ga h2,eR]
   rw[←a1,←a2,h]
  by_cases e:r=R
  ·rw[e];exact e1
  ·exact abR v w R (λr hr=>hv r af) (λr hr=>hw r af) (by rw[e1]at h;omega) r af
def abS{f:Nat→Int}{g:Nat→Nat}{X:Nat}:∀n,(∀i,i<n→(f i).natAbs≤g i*X)→(sm f n).natAbs≤sN g n*X
 |0,_=>by simp[sm]
 |n+1,h=>by
  have h1:=abS n λi hi=>h i af
  have h2:=h n af;rw[sm,sN,fP];omega
def abT(f g:Nat→Int):∀k,sm (λi=>f i-g i) k=sm f k-sm g k
 |0=>rfl
 |k+1=>by simp only[sm,abT f g k];omega
def amo(M:Nat→Nat→Int)(R W:Nat)(hW:∀r,r<R→sN (λc=>(M r c).natAbs) (R+1)≤W)(s8:1≤W):
  ∃x:Nat→Int,(∃c,c<R+1∧x c≠0)∧(∀c,c<R+1→(x c).natAbs≤(2*W)^R)∧∀r,r<R→sm (λc=>M r c*x c) (R+1)=0:=by
 obtain⟨X,hX⟩:∃X,X=(2*W)^R:=⟨_,ae⟩
 let dg:Nat→Nat→Int:=λi c=>((i/(X+1)^c%(X+1):Nat):Int)
 have Ak:∀i c,0≤dg i c∧dg i c≤X:=λi c=>by have:=iq (i/(X+1)^c) (show 0<X+1 by omega);show 0≤((i/(X+1)^c%(X+1):Nat):Int)∧((i/(X+1)^c%(X+1):Nat):Int)≤X;omega
 have tP:∀i r,r<R→(sm (λc=>M r c*dg i c) (R+1)).natAbs≤W*X:=λi r hr=>by refine dG (abS (g:=λc=>(M r c).natAbs) (X:=X) (R+1) λc _=>?_) (dY X (hW r hr));rw[sj];have:=Ak i c;exact lE _ af
 let v:Nat→Nat→Nat:=λi r=>(sm (λc=>M r c*dg i c) (R+1)+((W*X:Nat):Int)).toNat
 have hv:∀i r,r<R→v i r<2*W*X+1∧((v i r:Nat):Int)=sm (λc=>M r c*dg i c) (R+1)+((W*X:Nat):Int):=λi r hr=>by
  have h1:=tP i r hr;have e:v i r=(sm (λc=>M r c*dg i c) (R+1)+((W*X:Nat):Int)).toNat:=rfl;have e2:2*W*X=W*X+W*X:=by rw[xG,Nat.two_mul]
  generalize sm (λc=>M r c*dg i c) (R+1)=s at*;rw[e];omega
 have bh:(2*W*X+1)^R<(X+1)^(R+1):=by
  have h1:2*W*X+1≤2*W*(X+1):=by rw[Dk,kT];omega
  have h2:=F6 h1 R;rw[Nat.mul_pow,←hX]at h2;have h3:X*(X+1)^R<(X+1)*(X+1)^R:=VS af (mh af);rw[iX,g9 ((X+1)^R)];omega
 obtain⟨i,j,h1,h2,h3⟩:=Tv _ _ (λi=>code (2*W*X+1) (v i) R) bh λi _=>MV (v i) R λr hr=>(hv i r hr).1
 have h4:=abR (v i) (v j) R (λr hr=>(hv i r hr).1) (λr hr=>(hv j r hr).1) h3
 refine⟨λc=>dg i c-dg j c,?_,λc _=>?_,λr hr=>?_⟩
 ·refine gn λhn=>?_
  have:i=j:=abQ (K:=X+1) af (R+1) i j af af λc hc=>by
   have h5:dg i c-dg j c=0:=gn λh5=>hn ⟨c,hc,h5⟩
   have h6:((i/(X+1)^c%(X+1):Nat):Int)-((j/(X+1)^c%(X+1):Nat):Int)=0:=h5;omega
  omega
 ·have a1:=Ak i c;have a2:=Ak j c;show(dg i c-dg j c).natAbs≤_;rw[←hX];omega
 ·have a1:=(hv i r hr).2;have a2:=(hv j r hr).2;have e:sm (λc=>M r c*(dg i c-dg j c)) (R+1)=sm (λc=>M r c*dg i c) (R+1)-sm (λc=>M r c*dg j c) (R+1):=by rw[←abT];exact fT λc _=>J8 _ _ _
  rw[e];rw[h4 r hr]at a1;omega
def Cv(f g:PS)(n r c:Nat):Int:=if c<n then(if c≤r then f (r-c)else 0)else if c<2*n+1 then(if c-n≤r then g (r-(c-n))else 0)else(if r=0 then-1 else 0)
def abU(f:Nat→Int)(a:Nat):∀b,sm f (a+b)=sm f a+sm (λi=>f (a+i)) b
 |0=>by simp[sm]
 |b+1=>by rw[←tA,sm,abU f a b,sm];omega
def abV{f:Nat→Nat}{m:Nat}:∀n,(∀i,i<n→f i≤m)→sN f n≤n*m
 |0,_=>by simp[sN]
 |n+1,h=>by
  have h1:=abV n λi hi=>h i af
  have h2:=h n af;rw[sN,fP,iZ];omega
def amp{f g:PS}{n:Nat}{B:Nat}(hB:1≤B)(hf:∀i,n+1<i→f i=0)(hg:∀i,n<i→g i=0)(bf:∀i,(f i).natAbs≤B)(bg:∀i,(g i).natAbs≤B):
  ∃(u v:PS)(D:Int),(∀i,n≤i→u i=0)∧(∀i,n+1≤i→v i=0)∧u*f+v*g=PS.K D∧D.natAbs≤(2*((2*n+2)*B))^(2*n+1)∧(D=0→v=0→u=0→False):=by
 obtain⟨x,⟨c0,h1,h2⟩,h3,h4⟩:=amo (Cv f g n) (2*n+1) ((2*n+2)*B) (λr _=>abV _ λc _=>by
  unfold Cv;split
  ·split
   ·exact bf _
   ·exact bK _
  ·split
   ·split
    ·exact bg _
    ·exact bK _
   ·split
    ·exact hB
    ·exact bK _) (by have:=nk (show 1≤2*n+2 by omega) hB;omega)
 refine⟨λi=>if i<n then x i else 0,λi=>if i<n+1 then x (n+i)else 0,x (2*n+1),λi hi=>aq af,λi hi=>aq af,?_,h3 _ af,?_⟩
 ·refine PS.ext λr=>?_
  have e1:∀(h A:PS)(m k:Nat),(∀i,m≤i→A i=0)→(A*h) k=sm (λc=>(if c≤k then h (k-c)else 0)*A c) m:=λh A m k hA=>by
   rw[PS.gN];have a1:∀d,sm (λc=>(if c≤k then h (k-c)else 0)*A c) (k+1+d)=sm (λc=>(if c≤k then h (k-c)else 0)*A c) (k+1):=λd=>by
    induction d with
    |zero=>rfl
    |succ d ih=>rw[←tA,sm,ih,aq af,kJ,nl]
   have a2:∀d,sm (λc=>(if c≤k then h (k-c)else 0)*A c) (m+d)=sm (λc=>(if c≤k then h (k-c)else 0)*A c) m:=λd=>by
    induction d with
    |zero=>rfl
    |succ d ih=>rw[←tA,sm,ih,hA _ af,eo,nl]
   rw[←a2 (k+1),J4 m,a1 m];exact fT λc hc=>by rw[aw af,fc]
  rw[PS.fJ,e1 f _ n r (λi hi=>aq af),e1 g _ (n+1) r (λi hi=>aq af)];by_cases hr:r<2*n+1
  ·have h5:=h4 r hr;rw[show 2*n+1+1=n+(n+1)+1 by omega,sm,abU]at h5;have e2:sm (λc=>Cv f g n r c*x c) n=sm (λc=>(if c≤r then f (r-c)else 0)*(if c<n then x c else 0)) n:=fT λc hc=>by rw[Cv,aw hc,aw hc]
   have e3:sm (λi=>Cv f g n r (n+i)*x (n+i)) (n+1)=sm (λc=>(if c≤r then g (r-c)else 0)*(if c<n+1 then x (n+c)else 0)) (n+1):=fT λc hc=>by rw[Cv,aq af,aw af,aw hc,FX]
   rw[e2,e3,Cv,aq af,aq af]at h5;rw[PS.K,show 2*n+1=n+(n+1)by omega];split at h5
   ·rename_i e;rw[aw e];omega
   ·rename_i e;rw[aq e];omega
  ·rw[PS.K,aq af,nZ λc hc=>?_,nZ λc hc=>?_]
   ·rfl
   ·split
    ·exact(az (·*_) (hg _ af)).trans (kJ _)
    ·rw[kJ]
   ·split
    ·exact(az (·*_) (hf _ af)).trans (kJ _)
    ·rw[kJ]
 ·intro hD hv hu;refine h2 ?_;by_cases c1:c0<n
  ·have:=congrFun hu c0;rwa[aw c1]at this
  ·by_cases c2:c0<2*n+1
   ·have:=congrFun hv (c0-n);rwa[aw af,show n+(c0-n)=c0 by omega]at this
   ·rw[show c0=2*n+1 by omega];exact hD
def abW{D:Nat}:∀{l:List Nat},l.Nodup→(∀p∈l,dH p∧p∣D)→yH l∣D
 |[],_,_=>Nat.one_dvd D
 |p::l,hn,h=>by
  obtain⟨h1,h2⟩:=zc.1 hn;have ih:=abW h2 λq hq=>h q (by simp[hq])
  have hp:=(h p be).1;have hc:Nat.Coprime p (yH l):=hp.coprime λhd=>by
   have key:∀{l:List Nat},(∀q∈l,dH q∧q∣D)→p∣yH l→p∈l:=by
    intro l;induction l with
    |nil=>intro _ hd;have h5:=hp.1;have:=rf Nat.one_pos hd;omega
    |cons q l ih=>
     intro hl hd
     rcases hp.dvd_mul (a:=q) (b:=yH l) hd with e|e
     ·rcases(hl q be).1.wR e with e2|e2
      ·have h5:=hp.1;omega
      ·rw[e2];simp
     ·have:=ih (λr hr=>hl r (by simp[hr])) e;simp[this]
   exact h1 (key (λq hq=>h q (by simp[hq])) hd)
  exact hc.mul_dvd_of_dvd_of_dvd (h p be).2 ih
def amq:gD.Nodup:=by
 have h:(gD.zip (gD.drop 1)).all (λx=>Nat.blt x.1 x.2)=true:=gI;have key:∀(l:List Nat),(l.zip (l.drop 1)).all (λx=>Nat.blt x.1 x.2)=true→l.Pairwise (·<·):=by
  intro l;induction l with
  |nil=>intro _;exact .nil
  |cons a l ih=>
   intro h
   cases l with
   |nil=>exact OH _ _
   |cons b l=>
    have h:(((a,b)::((b::l).zip l)).all λx=>Nat.blt x.1 x.2)=true:=h
    rw[List.all_cons,eQ]at h
    have i1:=ih h.2
    refine jZ.2 ⟨λc hc=>?_,i1⟩
    have kK:a<b:=cT h.1
    rcases dx.1 hc with e|e
    ·rw[e];exact kK
    ·exact Nat.lt_trans kK ((jZ.1 i1).1 c e)
 exact(key gD h).imp λh=>Nat.ne_of_lt h
def MW:Nat:=2^3089
def amr:Nat.ble (MW+1) (yH gD)=true:=gI
def ams{a b:Nat}(h:Nat.ble (a+1) b=true):a<b:=Nat.lt_of_succ_le (cT h)
def amt:MW<yH gD:=ams amr
def amu{D:Int}(h0:D≠0)(h:D.natAbs≤MW):∃p∈gD,¬(p:Int)∣D:=gn λhn=>by
 have h1:=abW (D:=D.natAbs) amq λp hp=>⟨MU hp,Int.ofNat_dvd_left.1 (gn λhd=>hn ⟨p,hp,hd⟩)⟩
 have h2:=rf af h1;exact absurd h (Nat.not_le_of_lt (kl amt h2))
end Go.El
namespace Go.El
open Go Go.Proofs
def aG.a1{P:Program}{f:FuncId}{x y:AV}{xs:List AV}{r:AV}(h:aG P f (y::xs) r)(hle:au x y):aG P f (x::xs) r:=
 ⟨h.call,h.hJ,λH W vs hs hv=>h.spec H W vs hs (by obtain⟨v,r,rfl,h1,h2⟩:=hv;exact⟨v,r,ae,hle.1 _ _ h1,h2⟩)⟩
def Fb(a:List Int)(m:Int)(b:List Int):List Int:=(List.range (max a.length b.length)).map λi=>a.getD i 0+m*b.getD i 0
def amv(f:Nat→Int)(i:Nat):(List.range (i+1)).map f=(List.range i).map f++[f i]:=by rw[pW,dZ];rfl
set_option maxHeartbeats 1000000 in
def amw(a:List Int)(m:Int)(b:List Int)(u:Nat)(hu:u≤100000)(la:a.length≤1000)(lb:b.length≤1000)(ha:∀i,aU u (a.getD i 0))(hm:aU u m)(hb:∀i,0≤b.getD i 0∧b.getD i 0<4294967296):aG Tryz.prog 113 [cS .z a,aZ m,cS aM b] (cS .z (a6 (Fb a m b))):=by
 refine aX Tryz.func113 ae ae ae ae ae ak ?_;generalize hM:max a.length b.length=M;have hMb:M≤1000:=af;have pG:Fb a m b=(List.range M).map λi=>a.getD i 0+m*b.getD i 0:=by rw[Fb,hM]
 rw[pG];refine rr ae (rb (x8 .z [] ae ae (re ae (aj (rr ae ?_)))));refine aK (bA (α:=Nat) (λi=>⟨[(0,cS .z a),(2,cS aM b),(4,.c (.P 0 0)),(7,.c (.X 1000000)),(8,cI i)],[(0,.box 44 0 (av .z m)),(1000000,.vec 44 .z ((List.range i).map λi=>a.getD i 0+m*b.getD i 0))],3,[]⟩) (λi=>i≤M) (λi=>M-i) 0 (bK _) (wk ⟨sR ae,sR ae,sR ae,sR ae,sR ae,ah⟩ ⟨bE ae ae,bR ae,ah⟩) ?_);intro i hi;have hl:((List.range i).map λi=>a.getD i 0+m*b.getD i 0).length=i:=be;by_cases hiM:i<M
 ·refine wO ⟨[(0,cS .z a),(2,cS aM b),(4,.c (.P 0 0)),(7,.c (.X 1000000)),(8,cI i)],[(0,.box 44 0 (av .z m)),(1000000,.vec 44 .z ((List.range i).map λi=>a.getD i 0+m*b.getD i 0))],4,[]⟩ ?_ (λic=>rb (rg 14 ae ae (λh=>re ae (ax ae (λ_=>aC (my ic ck)) (λh2=>by cases h2))) (λh=>re ae (ax ae (λ_=>aC (my ic ck)) (λh2=>?_)))))
  ·have h2:=hb i;have uo:aU 1 (b.getD i 0):= .one af;refine aj (aK (cG ?_));refine rc ae ae (aiN a i) (rc ae ae (ajz b i) (rc ae ae (BR (b.getD i 0) af af) (hp:=aR) (rc ae ae (tU m (b.getD i 0) (hm.sm af) (uo.sm af)) (rc ae ae (X9 (a.getD i 0) (m*b.getD i 0) ((ha i).sm af) ((hm.mul uo).sm af)) ?_))));refine rl .z [a.getD i 0+m*b.getD i 0] ae ae (ra ae ae ae ae ae ae ae ae ae ?_ ?_ (re ae ?_))
   ·show(_+1+(_+1)/4+192)*32≤_;omega
   ·show(_+1)*2≤_;omega
   refine a7 (ai (rt ae (a8 (i+1) hiM FQ (Wk.trans (wk (st':=⟨[(0,cS .z a),(2,cS aM b),(4,.c (.P 0 0)),(7,.c (.X 4013000)),(8,cI ((i+1:Nat):Int))],[(0,.box 44 0 (av .z m)),(4013000,.vec 44 .z ((List.range (i+1)).map λi=>a.getD i 0+m*b.getD i 0))],8,[]⟩) ⟨sR ae,sR ae,sR ae,sR ae,sR ae,ah⟩ ⟨bR ae,bE ae ?_,ah⟩) (Wk.trans (qq 1000000 4013000 ae ae ae) ck)))));exact az (aJ.vec 44 .z) (amv _ i).symm
  ·exfalso;have h:¬(i:Int)<(a.length:Int):=bC h;have h2:¬(i:Int)<(b.length:Int):=bC h2;omega
 ·have uZ:i=M:=by omega
  subst uZ;refine aj (rb (rg 14 ae ae (λh=>?_) (λh=>?_)))
  ·exfalso;have h:(i:Int)<(a.length:Int):=bc h;omega
  ·refine re ae (ax ae (λh2=>?_) (λh2=>?_))
   ·exfalso;have h2:(i:Int)<(b.length:Int):=bc h2;omega
   ·exact bp (bu (br (bq (ai (fS 1000000 ae ae ae (rb (rc ae ae (aiO _) (re ae (aF (aL ar ae (au.refl _)))))))))))
def amy(m:Int)(b:List Int):Fb [] m b=b.map (m*·):=by refine nP (by simp[Fb]) (λi h1 h2=>?_);have h3:i<b.length:=gR;simp only[Fb,si,A0];rw[aY (l:=b),ct h3];simp
def amz(b:List Int)(lb:b.length≤1000)(hb:∀i,0≤b.getD i 0∧b.getD i 0<4294967296):aG Tryz.prog 40 [cS aM b] (cS .z (a6 b)):=by refine aX Tryz.func40 ae ae ae ae ae ak ?_;have h:=amw [] 1 b 1 ak be lb (λi=>aU.zero 1) (.one ak) hb;rw[amy,show(λx:Int=>1*x)=id from funext λx=>iY x,List.map_id]at h;exact rr ae (rb (rc ae ae (BR 1 ak ak) (rc ae ae (h.a1 (au.nil .z)) (re ae (aF (aL ar ae (au.refl _)))))))
def fj(a m:Int):Int:=if a%m+a%m>m then a%m-m else a%m
def abX{n:Nat}{a m:Int}(hm:0<m)(h:aU n m):aU n (fj a m):=by have h1:=gT a (show m≠0 by omega);have h2:=il a hm;unfold fj aU at*;split<;>omega
def abY{a b:Int}:dn a b>0↔a>b:=by
 unfold dn;split
 ·omega
 ·split<;>omega
def abZ{a b:Int}(h1:bN a=bN b)(h2:cY a=cY b):a=b:=by have h3:val (ay a.natAbs)=val (ay b.natAbs):=az val h2;rw[eT,eT]at h3;have h4:=vb a;have h5:=vb b;rw[←h4,←h5,h1,show a.natAbs=b.natAbs by omega]
def MY{x y:Bool}:(x !=y)=true↔x≠y:=by cases x<;>cases y<;>decide
def ab0(a b:Int)(ha:Sm a):aG Tryz.prog 32 [aZ a,aZ b] (cB (decide (a=b))):=by
 refine aX Tryz.func32 ae ae ae ae ae ak ?_;have ha:(cY a).length≤1099511627776:=ha;refine rr ae (aj (rb (rg 11 ae ae (λh=>?_) (λh=>?_))))
 ·have h:bN a≠bN b:=MY.1 h;refine re ae (ax ae (λ_=>rr ae (aF (bW (aL ar ae (au.of_eq (az cB ?_)))))) (λh2=>by cases h2));rw[kq (λe=>h se)]
 ·have h:bN a=bN b:=by
   have h:¬(bN a !=bN b)=true:=by rw[h];decide
   rw[MY]at h;exact Decidable.not_not.1 h
  refine re ae (ax ae (λh2=>?_) (λh2=>aC (ai ?_)))
  ·have h2:=qA h2;refine rr ae (aF (bW (aL ar ae (au.of_eq (az cB ?_)))));rw[kq (λe=>h2 se)]
  ·have h2:=qC h2;have hl:(cY a).length=(cY b).length:=af;refine aj (rr ae (aK (bA (α:=Nat) (λi=>⟨[(2,.c (.P 0 0)),(3,.c (.P 1000 0)),(5,cI i)],[(0,.box 44 0 (av .z a)),(1000,.box 44 0 (av .z b))],4,[]⟩) (λi=>i≤(cY a).length∧(cY a).take i=(cY b).take i) (λi=>(cY a).length-i) 0 ⟨bK _,by simp⟩ (wk ⟨sR ae,sR ae,sR ae,ah⟩ ⟨bE ae ae,bE ae ae,ah⟩) ?_)));rintro i ⟨hi,ht⟩;refine aj (rr ae (ax ae (λh3=>?_) (λh3=>?_)))
   ·have h3:i<(cY a).length:=by have h3:(i:Int)<((cY a).length:Int):=bc h3;omega
    refine aC (ai (aj (aK (rr ae (hp:=aR) (ax ae (λh4=>?_) (λh4=>aC (a7 (ai ?_))))))))
    ·have h4:(cY a).getD i 0≠(cY b).getD i 0:=qA h4;refine rr ae (aF ?_);repeat(first|refine bW ?_|refine fC ?_|refine ix ?_)
     refine aL ar ae (au.of_eq (az cB ?_));rw[kq (λe=>h4 se)]
    ·have h4:(cY a).getD i 0=(cY b).getD i 0:=qC h4;exact rt ae (a8 (i+1) ⟨h3,by rw[px _ i h3,px _ i af,ht,h4]⟩ (by show(cY a).length-(i+1)<(cY a).length-i;omega) (wk ⟨sR ae,sR ae,sR ae,ah⟩ ⟨bE ae ae,bE ae ae,ah⟩))
   ·have h3:i=(cY a).length:=by have h3:¬(i:Int)<((cY a).length:Int):=bC h3;omega
    subst h3;rw[iV,lD af]at ht;refine bp (bu (br (bq (ai (rr ae (aF (aL ar ae (au.of_eq (az cB ?_)))))))));rw[ov (abZ h ht)]
def amA(a b:List Int)(la:a.length≤1000000)(ha:∀i,Sm (a.getD i 0)):aG Tryz.prog 31 [cS .z a,cS .z b] (cB (decide (a=b))):=by
 refine aX Tryz.func31 ae ae ae ae ae ak ?_;refine rr ae (aj (rr ae (ax ae (λh=>?_) (λh=>aC (ai ?_)))))
 ·have h:=qA h;refine rr ae (aF (bW (aL ar ae (au.of_eq (az cB ?_)))));rw[kq (λe=>h se)]
 ·have h:=qC h;have hl:a.length=b.length:=af;refine aj (rr ae (aK (bA (α:=Nat) (λi=>⟨[(0,cS .z a),(1,cS .z b),(5,cI i)],[],4,[]⟩) (λi=>i≤a.length∧a.take i=b.take i) (λi=>a.length-i) 0 ⟨bK _,by simp⟩ ck ?_)));rintro i ⟨hi,ht⟩;refine aj (rr ae (ax ae (λh2=>?_) (λh2=>?_)))
  ·have h2:i<a.length:=by have h2:(i:Int)<(a.length:Int):=bc h2;omega
   have hs:aG Tryz.prog 32 [.a (av .z (a.getD ((i:Int)).toNat 0)),.a (av .z (b.getD ((i:Int)).toNat 0))] (cB (decide (a.getD i 0=b.getD i 0))):=by rw[bw];exact ab0 _ _ (ha i)
   refine aC (ai (aj (aK (rb (rc ae ae hs (hp:=aR) (re ae (ax ae (λh3=>?_) (λh3=>aC (a7 (ai ?_))))))))))
   ·have h3:a.getD i 0≠b.getD i 0:=by intro e;have h3:(!decide (a.getD i 0=b.getD i 0))=true:=h3;rw[ov e]at h3;cases h3
    refine rr ae (aF ?_);repeat(first|refine bW ?_|refine fC ?_|refine ix ?_)
    refine aL ar ae (au.of_eq (az cB ?_));rw[kq (λe=>h3 se)]
   ·have h3:a.getD i 0=b.getD i 0:=by
     refine Decidable.byContradiction λe=>?_
     have h3:(!decide (a.getD i 0=b.getD i 0))=false:=h3;rw[kq e]at h3;cases h3
    exact rt ae (a8 (i+1) ⟨h2,by rw[px a i h2,px b i af,ht,h3]⟩ pQ ck)
  ·have h2:i=a.length:=by have h2:¬(i:Int)<(a.length:Int):=bC h2;omega
   subst h2;rw[iV,lD af]at ht;refine bp (bu (br (bq (ai (rr ae (aF (aL ar ae (au.of_eq (az cB ?_)))))))));rw[ov ht]
def ab1(a m:Int)(u:Nat)(hu:u≤100000)(jq:0<m)(ha:Sm a)(hm:aU u m):aG Tryz.prog 164 [aZ a,aZ m] (aZ (fj a m)):=by
 refine aX Tryz.func164 ae ae ae ae ae ak ?_;have hr:aU u (a%m):=aU.emod jq hm;refine rr ae (rb (rc ae ae (wP a m af ha (hm.sm af)) (re ae ?_)));refine aj (rb (rc ae ae (Ad (a%m) (a%m) (hr.sm af) (hr.sm af)) (rc ae ae (Li (a%m+a%m) m) (re ae (ax ae (λh=>?_) (λh=>aC (ai ?_)))))))
 ·have h:dn (a%m+a%m) m>0:=bc h;rw[abY]at h;refine cG (rc ae ae (Rg (a%m) m (hr.sm af) (hm.sm af)) (re ae (ai (rr ae (aF (aL ar ae (au.of_eq ?_)))))));rw[fj,aw h];rfl
 ·have h:¬dn (a%m+a%m) m>0:=bC h;rw[abY]at h;refine rr ae (aF (aL ar ae (au.of_eq ?_)));rw[fj,aq h];rfl
def kj(a b:List Int)(i:Nat):Nat→List Int→List Int
 |0,r=>r
 |j+1,r=>(kj a b i j r).set (i+j) ((kj a b i j r).getD (i+j) 0+a.getD i 0*b.getD j 0)
def iB(a b:List Int):Nat→List Int
 |0=>List.replicate (a.length+b.length-1) 0
 |i+1=>kj a b i b.length (iB a b i)
def pH(a b:List Int)(m:Int):List Int:=(iB a b a.length).map (·%m)
def IK(a b:List Int)(i:Nat)(r:List Int):∀j,(kj a b i j r).length=r.length
 |0=>rfl
 |j+1=>by rw[kj,gK,IK a b i r j]
def IL(a b:List Int):∀i,(iB a b i).length=a.length+b.length-1
 |0=>by simp[iB]
 |i+1=>by rw[iB,IK,IL a b i]
def ZB(u v c:Nat)(r:List Int):Prop:=∀k,(r.getD k 0).natAbs≤c*4294967296^(u+v)
def Tw{a b:List Int}{u v c:Nat}(ha:∀i,aU u (a.getD i 0))(hb:∀i,aU v (b.getD i 0)){i:Nat}{r:List Int}(h:ZB u v c r):∀j,(∀k,i+j≤k→(kj a b i j r).getD k 0=r.getD k 0)∧ZB u v (c+1) (kj a b i j r)
 |0=>⟨λk _=>rfl,λk=>dG (h k) (dY _ (Nat.le_succ c))⟩
 |j+1=>by
  obtain⟨h1,h2⟩:=Tw (a:=a) (b:=b) ha hb (i:=i) h j;refine⟨λk hk=>?_,λk=>?_⟩
  ·rw[kj,aY,List.getElem?_set_ne af,←aY];exact h1 k af
  ·rw[kj];by_cases e:i+j<(kj a b i j r).length
   ·rw[mq _ _ _ _ e];split
    ·rw[h1 _ (bF _)];have h3:=h (i+j);have h4:=(ha i).mul (hb j);unfold aU at h4;have h5:=Int.natAbs_add_le (r.getD (i+j) 0) (a.getD i 0*b.getD j 0);rw[fP,iZ];omega
    ·exact h2 k
   ·rw[List.set_eq_of_length_le af];exact h2 k
def Tx{a b:List Int}{u v:Nat}(ha:∀i,aU u (a.getD i 0))(hb:∀i,aU v (b.getD i 0)):∀i,ZB u v i (iB a b i)
 |0=>λk=>by rw[iB,aY,mM];split<;>simp
 |i+1=>by rw[iB];exact(Tw ha hb (Tx ha hb i) _).2
def ZB.sm{u v c:Nat}{r:List Int}(h:ZB u v c r)(hc:c<4294967296)(k:Nat):aU (u+v+1) (r.getD k 0):=by have h1:=h k;have hp:0<4294967296^(u+v):=mh ak;have h2:c*4294967296^(u+v)<4294967296*4294967296^(u+v):=VS hc hp;unfold aU;rw[iX,g9 (4294967296^(u+v))];omega
def MZ{a b:List Int}{u v:Nat}(ha:∀i,aU u (a.getD i 0))(hb:∀i,aU v (b.getD i 0))(i:Nat)(hi:i≤1000)(k:Nat):aU (u+v+1) ((iB a b i).getD k 0):=(Tx ha hb i).sm af k
def ab2{a b:List Int}{u v i:Nat}(ha:∀i,aU u (a.getD i 0))(hb:∀i,aU v (b.getD i 0))(hi:i≤1000)(_:∀k,aU (u+v+1) ((iB a b i).getD k 0))(j k:Nat):aU (u+v+1) ((kj a b i j (iB a b i)).getD k 0):=(Tw ha hb (Tx ha hb i) j).2.sm af k
def ab3(a b:List Int)(i:Nat)(r:List Int):∀j,i+j≤r.length→ps (kj a b i j r)=ps r+PS.K (a.getD i 0)*PS.X i*ps (b.take j)
 |0,_=>by rw[kj,HD,PS.mul_zero,PS.add_zero]
 |j+1,h=>by rw[kj,LH _ (by rw[IK];omega),Eu,PS.mul_add,←PS.add_assoc,ab3 a b i r j af];congr 1;rw[show∀x y:Int,x+y-x=y by intros;omega];rw[PS.sY,PS.Lw];ac_rfl
def ab4(a b:List Int):∀i,i≤a.length→ps (iB a b i)=ps (a.take i)*ps b
 |0,_=>by rw[iB,RK,HD,PS.zero_mul]
 |i+1,h=>by have h2:=ab3 a b i (iB a b i) b.length (by rw[IL];omega);rw[iV]at h2;rw[iB,h2,ab4 a b i af,Eu,PS.add_mul]
def Ty(a b:List Int)(m:Int):Cg m (ps (pH a b m)) (ps a*ps b):=by have h:=ab4 a b a.length (bF _);rw[iV]at h;rw[←h];exact LG m _
def Cw(a b:List Int)(m:Int):(pH a b m).length=a.length+b.length-1:=by rw[pH,dJ,IL]
set_option maxHeartbeats 4000000 in
def amB(a b:List Int)(m:Int)(u v:Nat)(zX:u+v≤100000)(la:a.length≤1000)(lb:b.length≤1000)(Tz:a≠[])(TA:b≠[])(jq:0<m)(ha:∀i,aU u (a.getD i 0))(hb:∀i,aU v (b.getD i 0))(hm:aU (u+v) m):
  mZ Tryz.prog 161 [cS .z a,.c (.X 0),aZ m] 44 .z b (cS .z (pH a b m)) b:=by
 refine qt Tryz.func161 ae ae ae ae ae ak ?_
 have pa:=cX.2 Tz
 have pb:=cX.2 TA
 have k6:∀i,(iB a b i).length=a.length+b.length-1:=IL a b
 refine rr ae (rb (rm .z (a.length+b.length-1) ae ae ae ae ae ae (λg=>BG g) af ?_ ?_ (re ae ?_)))
 ·show _*32≤_;omega
 ·show _*2≤_;omega
 refine aj (rr ae ?_)
 refine aK (bA (α:=Nat) (λi=>⟨[(0,cS .z a),(1,.c (.X 0)),(5,.c (.P 1000000 0)),(7,.c (.X 2006000)),(19,cI a.length),(20,cI i)],[(0,.vec 44 .z b),(1000000,.box 44 0 (av .z m)),(2006000,.vec 44 .z (iB a b i))],5,[]⟩) (λi=>i≤a.length) (λi=>a.length-i) 0 (bK _) (wk ⟨sR ae,sR ae,sR ae,sR ae,sR ae,sR ae,ah⟩ ⟨bR ae,bE ae ae,bR ae,ah⟩) ?_)
 ·intro i hi;refine rr ae (aj (ax ae (λh=>?_) (λh=>?_)))
  ·have h:i<a.length:=by have h:(i:Int)<(a.length:Int):=bc h;omega
   refine aC (ai (aj (aK (rr ae (rr ae ?_)))));refine aK (bA (α:=Nat) (λj=>⟨[(0,cS .z a),(1,.c (.X 0)),(5,.c (.P 1000000 0)),(7,.c (.X 2006000)),(8,cI i),(19,cI a.length),(20,cI i),(24,cI b.length),(25,cI j)],[(0,.vec 44 .z b),(1000000,.box 44 0 (av .z m)),(2006000,.vec 44 .z (kj a b i j (iB a b i)))],8,[]⟩) (λj=>j≤b.length) (λj=>b.length-j) 0 (bK _) ck ?_);intro j hj;have qc:(kj a b i j (iB a b i)).length=a.length+b.length-1:=by rw[IK,k6]
   refine rr ae (aj (ax ae (λh2=>?_) (λh2=>?_)))
   ·have h2:j<b.length:=by have h2:(j:Int)<(b.length:Int):=bc h2;omega
    have yl:((i:Int)+(j:Int)).toNat=i+j:=af;have hz:=ab2 ha hb (i:=i) af (MZ ha hb i af) j (i+j);have hmul:aG Tryz.prog 105 [.a (av .z (a.getD ((i:Int)).toNat 0)),.a (av .z (b.getD ((j:Int)).toNat 0))] (aZ (a.getD i 0*b.getD j 0)):=by rw[bw,bw];exact tY _ _ ((ha i).sm af) ((hb j).sm af)
    have pG:aG Tryz.prog 103 [.a (av .z ((kj a b i j (iB a b i)).getD ((i:Int)+(j:Int)).toNat 0)),aZ (a.getD i 0*b.getD j 0)] (aZ ((kj a b i j (iB a b i)).getD (i+j) 0+a.getD i 0*b.getD j 0)):=by rw[yl];exact Ad _ _ (hz.sm af) (((ha i).mul (hb j)).sm af)
    refine aC (ai (aj (aK (rr ae (cG (rc ae ae hmul (hp:=aR) (rc ae ae pG (lO ((kj a b i j (iB a b i)).getD (i+j) 0+a.getD i 0*b.getD j 0) ae ae ae ae ae (by rw[qc];omega) (re ae ?_) (hp:=aR)))))))));refine a7 (ai (rt ae (a8 (j+1) h2 Oy (wk ⟨sR ae,sR ae,sR ae,sR ae,sR ae,sR ae,sR ae,sR ae,sR ae,ah⟩ ⟨bR ae,bR ae,bE ae ?_,ah⟩))));rw[kj,yl]
   ·have h2:j=b.length:=by have h2:¬(j:Int)<(b.length:Int):=bC h2;omega
    subst h2;exact bp (bu (br (bq (a7 (ai (rt ae (a8 (i+1) h pQ (wk ⟨sR ae,sR ae,sR ae,sR ae,sR ae,sR ae,ah⟩ ⟨bR ae,bR ae,bE ae ae,ah⟩))))))))
  ·have h:i=a.length:=by have h:¬(i:Int)<(a.length:Int):=bC h;omega
   subst h;have hZ:=MZ ha hb a.length af;have hZl:=k6 a.length;have Cx:pH a b m=(iB a b a.length).map (·%m):=rfl;rw[Cx];generalize iB a b a.length=Z at*;refine bp (bu (br (bq (ai ?_))));refine aj (rr ae ?_);refine aK (bA (α:=Nat) (λi=>⟨[(1,.c (.X 0)),(5,.c (.P 1000000 0)),(7,.c (.X 2006000)),(52,cI Z.length),(53,cI i)],[(0,.vec 44 .z b),(1000000,.box 44 0 (av .z m)),(2006000,.vec 44 .z ((Z.map (·%m)).take i++Z.drop i))],12,[]⟩) (λi=>i≤Z.length) (λi=>Z.length-i) 0 (bK _) ck ?_);intro i hi;have IM:((Z.map (·%m)).take i).length=i:=cO;have TB:((Z.map (·%m)).take i++Z.drop i).length=Z.length:=cO;have lQ:((Z.map (·%m)).take i++Z.drop i).getD i 0=Z.getD i 0:=by rw[aY,y8 af,IM,iG,tv,j6,←aY]
   refine rr ae (aj (ax ae (λh=>?_) (λh=>?_)))
   ·have h:i<Z.length:=by have h:(i:Int)<(Z.length:Int):=bc h;omega
    have qv:aG Tryz.prog 162 [.a (av .z (((Z.map (·%m)).take i++Z.drop i).getD ((i:Int)).toNat 0)),aZ m] (.t [(true,av .z (Z.getD i 0/m)),(true,av .z (Z.getD i 0%m)),(false,[.I .i64 0])]):=by rw[bw,lQ];exact wP _ m af ((hZ i).sm af) (hm.sm af)
    refine aC (ai (aj (aK (rr ae (cG (rc ae ae qv (hp:=aR) (lO (Z.getD i 0%m) ae ae ae ae ae (by show(i:Int).toNat<_;rw[bw,TB];exact h) (re ae ?_) (hp:=aR))))))));refine a7 (ai (rt ae (a8 (i+1) h (by show Z.length-(i+1)<Z.length-i;omega) (wk ⟨sR ae,sR ae,sR ae,sR ae,sR ae,ah⟩ ⟨bR ae,bR ae,bE ae ?_,ah⟩))));refine az (aJ.vec 44 .z) ?_;rw[bw,px _ i (by simp;exact h),nj,pS _ _ af,IM,iG,pR h,Dd,getD_map (df m)];rfl
   ·have h:i=Z.length:=by have h:¬(i:Int)<(Z.length:Int):=bC h;omega
    subst h;rw[JY,kp,lD be];exact bp (bu (br (bq (ai (fS 2006000 ae ae ae (rr ae (aF (tT ar ae (au.refl _) ae))))))))
def amD(a:List Int)(la:a.length≤1000)(h0:a≠[])(ha:∀i,Sm (a.getD i 0))(h1:a.getD (a.length-1) 0=1):aG Tryz.prog 90 [cS .z a] (cB true):=by
 refine aX Tryz.func90 ae ae ae ae ae ak ?_;have hl:=cX.2 h0;refine rr ae (aj (rr ae (aK (bA (α:=Nat) (λi=>⟨[(0,cS .z a),(5,cS .z a),(6,cI a.length),(7,cI i)],[],2,[]⟩) (λi=>i≤a.length) (λi=>a.length-i) 0 (bK _) ck ?_))));intro i hi;refine rr ae (aj (ax ae (λh=>?_) (λh=>?_)))
 ·have h:i<a.length:=by have h:(i:Int)<(a.length:Int):=bc h;omega
  have hv:aG Tryz.prog 157 [.a (av .z (a.getD ((i:Int)).toNat 0))] (cB true):=by rw[bw];exact ajk _ (ha i)
  refine aC (ai (aj (aK (rr ae (hp:=aR) (rb (rc ae ae hv (re ae ?_)))))));refine ax ae (λh2=>by cases h2) (λ_=>aC (a7 (ai ?_)));exact rt ae (a8 (i+1) h pQ ck)
 ·refine bp (bu (br (bq (ai (rb (rg 18 ae ae (λh2=>?_) (λh2=>?_)))))))
  ·have e:aG Tryz.prog 149 [.a (av .z (a.getD (((a.length:Int)-1)).toNat 0)),aZ 1] (cI 0):=by have:=Li (a.getD (((a.length:Int)-1)).toNat 0) 1;rw[show((a.length:Int)-1).toNat=a.length-1 by omega,h1]at this⊢;exact this
   refine ia ae ae ae ae ae (oH 1 ak ak) (ia ae ae ae ae ae e (re ae (aF (aL ar ae (au.refl _)))) (hp:=aR)) (hp:=aR)
  ·exfalso;have h2:¬(a.length:Int)>0:=bC h2;omega
def Cy(c:List Int):Nat→Int
 |0=>c.getD 0 0
 |i+1=>if c.getD (i+1) 0>Cy c i then c.getD (i+1) 0 else Cy c i
def amE(c:List Int)(p:Int)(lc:c.length≤1000)(h0:c≠[])(hc:rp p c):∃M:Int,0≤M∧M<p∧aG Tryz.prog 91 [cS aM c] (cU M):=by
 have hl:=cX.2 h0;have hf:∀i,0≤Cy c i∧Cy c i<p:=by
  intro i;induction i with
  |zero=>exact hc 0
  |succ i ih=>
   rw[Cy]
   split
   ·exact hc _
   ·exact ih
 refine⟨Cy c (c.length-1),(hf _).1,(hf _).2,?_⟩;refine aX Tryz.func91 ae ae ae ae ae ak ?_;refine rr ae (aj (rr ae (ax ae (λh=>?_) (λh=>aC (ai ?_)))))
 ·exfalso;have h:(c.length:Int)<1:=bc h;omega
 refine rr ae (hp:=aR) (aj (rr ae (aK (bA (α:=Nat) (λi=>⟨[(0,cS aM c),(3,cU (Cy c i)),(4,cI ((i:Int)+1))],[],5,[]⟩) (λi=>i+1≤c.length) (λi=>c.length-i) 0 hl ck ?_))));intro i hi;refine aj (rr ae (ax ae (λh=>?_) (λh=>?_)))
 ·have h:i+1<c.length:=by have h:(i:Int)+1<(c.length:Int):=bc h;omega
  refine aC (ai (aj (aK (rt ae (hp:=aR) (a7 (ai (rt ae (a8 (i+1) h (by show c.length-(i+1)<c.length-i;omega) (wk ⟨sR ae,sE ae ?_,sR ae,ah⟩ ah)))))))));refine az (λz=>AV.c (C.I .u64 z)) ?_;rw[show((i:Int)+1).toNat=i+1 by omega];rfl
 ·have h:i=c.length-1:=by have h:¬(i:Int)+1<(c.length:Int):=bC h;omega
  subst h;exact bp (bu (br (bq (ai (rr ae (aF (aL ar ae (au.refl _))))))))
def amF(a b:List Int)(la:a.length≤1000000):aG Tryz.prog 95 [cS aM a,cS aM b] (cB (decide (a=b))):=by
 refine aX Tryz.func95 ae ae ae ae ae ak ?_;refine rr ae (aj (rr ae (ax ae (λh=>?_) (λh=>aC (ai ?_)))))
 ·have h:=qA h;refine rr ae (aF (bW (aL ar ae (au.of_eq (az cB ?_)))));rw[kq (λe=>h se)]
 ·have h:=qC h;have hl:a.length=b.length:=af;refine aj (rr ae (aK (bA (α:=Nat) (λi=>⟨[(0,cS aM a),(1,cS aM b),(12,cI a.length),(13,cI i)],[],4,[]⟩) (λi=>i≤a.length∧a.take i=b.take i) (λi=>a.length-i) 0 ⟨bK _,by simp⟩ ck ?_)));rintro i ⟨hi,ht⟩;refine rr ae (aj (ax ae (λh2=>?_) (λh2=>?_)))
  ·have h2:i<a.length:=by have h2:(i:Int)<(a.length:Int):=bc h2;omega
   refine aC (ai (aj (aK (rr ae (rr ae (hp:=aR) (ax ae (λh3=>?_) (λh3=>aC (a7 (ai ?_)))))))))
   ·have h3:a.getD i 0≠b.getD i 0:=qA h3;refine rr ae (aF ?_);repeat(first|refine bW ?_|refine fC ?_|refine ix ?_)
    refine aL ar ae (au.of_eq (az cB ?_));rw[kq (λe=>h3 se)]
   ·have h3:a.getD i 0=b.getD i 0:=qC h3;exact rt ae (a8 (i+1) ⟨h2,by rw[px a i h2,px b i af,ht,h3]⟩ pQ ck)
  ·have h2:i=a.length:=by have h2:¬(i:Int)<(a.length:Int):=bC h2;omega
   subst h2;rw[iV,lD af]at ht;refine bp (bu (br (bq (ai (rr ae (aF (aL ar ae (au.of_eq (az cB ?_)))))))));rw[ov ht]
def dN(p:Nat)(l:Nat→List Int)(i:Nat):Nat→List Int
 |0=>[1]
 |j+1=>if j=i then dN p l i j else(bM (eC (dN p l i j) (l j) p) (l i) p).2
def ft(F:Nat→List Int)(m:Int):Nat→List Int
 |0=>[1]
 |j+1=>pH (ft F m j) (F j) m
def AE(a pr:List Int)(next q:Int):List Int:=(List.range a.length).map λi=>(a.getD i 0-pr.getD i 0)%next/q
def l6(p:Nat)(a:List Int)(r:Nat)(q:Int)(F:Nat→List Int):List Int:=a6 (md p (AE a (ft F (q*p) r) (q*p) q))
def nL(p:Nat)(a:List Int)(l:Nat→List Int)(r:Nat)(q:Int)(F:Nat→List Int)(i:Nat):List Int:=(bM (eC (l6 p a r q F) (kO p (dN p l i r) (l i)) p) (l i) p).2
def uw(F c:List Int)(q:Int)(t:Nat):List Int:=(List.range F.length).map λj=>if j<t then F.getD j 0+q*c.getD j 0 else F.getD j 0
def ux(F c:List Int)(q:Int):List Int:=uw F c q F.length
def cQ(p:Nat)(a:List Int)(l:Nat→List Int)(r:Nat):Nat→Nat→List Int
 |0=>l
 |s+1=>λi=>ux (cQ p a l r s i) (nL p a l r ((p:Int)^(s+1)) (cQ p a l r s) i) ((p:Int)^(s+1))
def AF(p:Nat)(a:List Int)(l:Nat→List Int)(r k:Nat):List (List Int):=(List.range r).map λi=>(cQ p a l r (k-1) i).map (fj · ((p:Int)^k))
def uy(F c:List Int)(q:Int)(t:Nat):(uw F c q t).length=F.length:=by simp[uw]
def yI(F c:List Int)(q:Int)(t j:Nat)(hj:j<F.length):(uw F c q t).getD j 0=if j<t then F.getD j 0+q*c.getD j 0 else F.getD j 0:=by unfold uw;rw[aY,j3,ot hj];rfl
def amG(F c:List Int)(q:Int):uw F c q 0=F:=by refine nP (uy F c q 0) (λj h1 h2=>?_);have:=yI F c q 0 j h2;rw[aq af,aY,aY,ct h1,ct h2]at this;exact this
def xk{a b:List Int}(hl:a.length=b.length)(h:∀j,j<a.length→a.getD j 0=b.getD j 0):a=b:=by refine nP hl (λj h1 h2=>?_);have:=h j h1;rw[aY,aY,ct h1,ct h2]at this;exact this
def amH(F c:List Int)(q:Int)(t:Nat)(ht:t<F.length):(uw F c q t).set t (F.getD t 0+q*c.getD t 0)=uw F c q (t+1):=by
 refine xk (by rw[gK,uy,uy]) (λj hj=>?_);rw[gK,uy]at hj;rw[mq _ _ _ _ (by rw[uy];exact ht),yI _ _ _ _ _ hj,yI _ _ _ _ _ hj];by_cases e:t=j
 ·subst e;rw[aw be,aw af]
 ·by_cases e2:j<t
  ·rw[aq af,aw e2,aw af]
  ·rw[aq af,aq e2,aq af]
def amI{F c:List Int}(q:Int){t:Nat}(hc:c.length≤t):uw F c q t=ux F c q:=by
 refine xk (by rw[ux,uy,uy]) (λj hj=>?_);rw[uy]at hj;rw[ux,yI _ _ _ _ _ hj,yI _ _ _ _ _ hj,aw hj];split
 ·rfl
 ·rw[dz c af,eo,nl]
structure tf(p:Nat)(l:Nat→List Int)(r:Nat):Prop where
 hp:dH p
 dj:p≤2147483648
 M2:r≤100
 c:∀i,i<r→bV p (l i)
 l2:∀i,i<r→2≤(l i).length
 Ff:∀i,i<r→(l i).length≤100
 wU:∀i,i<r→gi p (ps (dN p l i r)) (ps (l i))
section
variable{p:Nat}{l:Nat→List Int}{r:Nat}(h:tf p l r)
include h
def tf.ne{i:Nat}(hi:i<r):l i≠[]:=λe=>by have:=h.l2 i hi;rw[e]at this;simp at this
def tf.yJ{i:Nat}(hi:i<r):∀j,j≤r→bV p (dN p l i j)∧(dN p l i j).length≤(l i).length-1
 |0,_=>by have h2:=h.hp.1;have:=h.l2 i hi;exact⟨⟨wT ak af,.inr (by simp[dN])⟩,by simp[dN];omega⟩
 |j+1,hj=>by
  rw[dN];split
  ·exact tf.yJ hi j af
  ·have ih:=tf.yJ hi j af;have cK:(0:Int)<(p:Int):=OC;obtain⟨d1,d2,d3,d4,d5,d6⟩:=k8 h.hp h.dj (nD cK (dN p l i j) (l j)).1 (h.c i hi) (h.ne hi);exact⟨d5 (nD cK _ _),d4⟩
def tf.inv{i:Nat}(hi:i<r):bV p (kO p (dN p l i r) (l i))∧(kO p (dN p l i r) (l i)).length≤(l i).length-1∧∃W,aW p W∧Cg p (ps (kO p (dN p l i r) (l i))*ps (dN p l i r)) (1+W*ps (l i)):=by have ho:=h.yJ hi r (bF _);have h2:=h.l2 i hi;obtain⟨z1,z2,z3,_⟩:=Zd h.hp h.dj ho.1 (h.c i hi) af (h.wU i hi) h2;exact⟨z1,z2,z3⟩
def tf.M3{i:Nat}(hi:i<r)(a:List Int)(q:Int)(F:Nat→List Int):bV p (l6 p a r q F)∧(l6 p a r q F).length≤a.length∧bV p (nL p a l r q F i)∧(nL p a l r q F i).length≤(l i).length-1:=by have cK:(0:Int)<(p:Int):=OC;have hm:bV p (l6 p a r q F):=nC cK (BY cK _);obtain⟨d1,d2,d3,d4,d5,d6⟩:=k8 h.hp h.dj (nD cK (l6 p a r q F) (kO p (dN p l i r) (l i))).1 (h.c i hi) (h.ne hi);refine⟨hm,?_,d5 (nD cK _ _),d4⟩;have:=vp (md p (AE a (ft F (q*p) r) (q*p) q));rw[yo]at this;simp only[AE,dJ,A1]at this;exact this
def tf.st(a:List Int):∀(s i:Nat),i<r→(cQ p a l r s i).length=(l i).length∧∀j,0≤(cQ p a l r s i).getD j 0∧(cQ p a l r s i).getD j 0<(p:Int)^(s+1)
 |0,i,hi=>by rw[Gg];exact⟨ae,(h.c i hi).1⟩
 |s+1,i,hi=>by
  obtain⟨h1,h2⟩:=tf.st a s i hi;obtain⟨_,_,c1,_⟩:=h.M3 hi a ((p:Int)^(s+1)) (cQ p a l r s);have hq:(0:Int)<(p:Int)^(s+1):=sn OC;have e0:cQ p a l r (s+1) i=uw (cQ p a l r s i) (nL p a l r ((p:Int)^(s+1)) (cQ p a l r s) i) ((p:Int)^(s+1)) (cQ p a l r s i).length:=rfl;rw[e0];refine⟨by rw[uy,h1],λj=>?_⟩;by_cases e:j<(cQ p a l r s i).length
  ·rw[yI _ _ _ _ _ e,aw e];have h3:=h2 j;have h4:=c1.1 j;generalize (nL p a l r ((p:Int)^(s+1)) (cQ p a l r s) i).getD j 0=c at*;generalize (cQ p a l r s i).getD j 0=x at*;have h5:=j4 (A8 hq) h4.1;have h6:(p:Int)^(s+1)*(c+1)≤(p:Int)^(s+1)*p:=ju af (A8 hq);rw[oX,nm]at h6;rw[fO (p:Int) (s+1)];omega
  ·rw[dz _ (by rw[uy];omega)];have hq2:(0:Int)<(p:Int)^(s+1+1):=sn OC;omega
end
def ab5{p:Nat}(hp:p≤2147483648):∀k:Nat,aU (k+1) ((p:Int)^k)
 |0=>by unfold aU;simp
 |k+1=>by have h:=(ab5 hp k).mul (aU.one (a:=(p:Int)) af);rwa[←fO]at h
def ab6{F:Nat→List Int}{m:Int}:∀j,(∀i,i<j→1≤(F i).length)→1≤(ft F m j).length
 |0,_=>bF _
 |j+1,h=>by
  have h1:=ab6 (F:=F) (m:=m) j λi hi=>h i af
  have h2:=h j (fN j);rw[ft,Cw];omega
def TC{F G:Nat→List Int}{m m':Int}:∀j,(∀i,i<j→(F i).length=(G i).length)→(ft F m j).length=(ft G m' j).length
 |0,_=>rfl
 |j+1,h=>by rw[ft,Cw,ft,Cw,TC j (λi hi=>h i af),h j (fN j)]
def TD(a b:List Int){m:Int}(hm:0<m)(k:Nat):0≤(pH a b m).getD k 0∧(pH a b m).getD k 0<m:=by rw[pH,getD_map (df m)];exact⟨gT _ af,il _ hm⟩
def amJ{F:Nat→List Int}{m:Int}(hm:1<m):∀j k,0≤(ft F m j).getD k 0∧(ft F m j).getD k 0<m
 |0,k=>by
  cases k with
  |zero=>exact⟨by show(0:Int)≤1;decide,hm⟩
  |succ k=>exact⟨jH _,by show(0:Int)<m;omega⟩
 |j+1,k=>TD _ _ af k
end Go.El
namespace Go.El
open Go Go.RowKit Go.Proofs
abbrev TP:ET:= .pr (.sl aM) aM
def je(l:Nat→List Int)(r:Nat)(p:Int):List (List Int×Int):=(List.range r).map λi=>(l i,p)
def Fg{α:Type}(f:Nat→α)(d:α){i r:Nat}(h:i<r):((List.range r).map f).getD i d=f i:=by rw[aY,j3,ot h];rfl
def ab7(g:Gh):bS g (av TP (TP.kU)) ([ZV.s,ZV.i .u64].map ZV.fV):=bS.append (ahY aM g) (lN .u64 g)
def jM(r i:Nat):List C:=(List.range i).map (λj=>C.X (1+j))++List.replicate (r-i) vN
def Cz{r i K:Nat}(h:1+i≤K):∀j∈cA (jM r i),j<K:=Sb λc hc id al=>by
 rcases bX.1 hc with h1|h1
 ·obtain⟨j,hj,rfl⟩:=nQ.1 h1;have:=kR.1 hj;simp only[C.aD,jw]at al;omega
 ·rw[JP h1]at al;cases al
def amK(r:Nat):jM r r=(List.range r).map λj=>C.X (1+j):=by unfold jM;rw[iG];simp
def TE(r i:Nat)(h:i≤r):(jM r i).length=r:=by unfold jM;simp;omega
def amL(r i:Nat)(h:i<r)(c:C):(jM r i).set i c=(List.range i).map (λj=>C.X (1+j))++c::List.replicate (r-(i+1)) vN:=by unfold jM;rw[pS _ _ be,show r-i=(r-(i+1))+1 by omega,v9];simp
def amM(r i:Nat)(h:i<r):(jM r i)[i]? =some vN:=by unfold jM;rw[y8 be,dJ,A1,iG,mM,aw af]
def amN(r i:Nat)(h:i<r):(jM r i).set i (.X (1+i))=jM r (i+1):=by rw[amL r i h,jM,pW,dZ];simp
def ab8(l:List Int){j:Nat}(h:j<l.length):l.take j++[l.getD j 0]=l.take (j+1):=by rw[wc,aY,ct h];rfl
def mv(A B id:Nat):Nat:=cond (Nat.beq id A) B id
def uz{A B id:Nat}(h:id≠A):mv A B id=id:=by
 unfold mv;cases e:Nat.beq id A with
 |true=>exact absurd (Da e) h
 |false=>rfl
def M4(A B:Nat):mv A B A=B:=by unfold mv;rw[O5];rfl
def TF{α:Type}{A B:Nat}{m:List (Nat×α)}(hB:ao B m=none):∀id b6,(ao id m).isSome=true→(ao b6 m).isSome=true→mv A B id=mv A B b6→id=b6:=by
 intro a b ha hb h;by_cases e1:a=A
 ·by_cases e2:b=A
  ·omega
  ·subst e1;rw[M4,uz e2]at h;subst h;rw[hB]at hb;cases hb
 ·by_cases e2:b=A
  ·subst e2;rw[M4,uz e1]at h;subst h;rw[hB]at ha;cases ha
  ·rwa[uz e1,uz e2]at h
def mvl{A B id:Nat}{l:List (Nat×aJ)}{v:aJ}(h:id≠A)(e:ao id l=some v):ao (mv A B id) l=some v:=by rwa[uz h]
def amO{α:Type}{t k:Nat}{l:List (Nat×α)}(h:t≠k):ao k (wC t l)=ao k l:=by rw[GJ,aq h]
def TG{r:Nat}{E:TypeId}{T:ET}{f:Nat→List T.den}{id:Nat}(h:r<id):ao id (gj r E T f)=none:=by
 cases e:ao id (gj r E T f)with
 |none=>rfl
 |some b=>obtain⟨i,h1,h2,_⟩:=LZ e;omega
def ab'{α:Type}{f:α→α}:∀{l:List α},(∀x∈l,f x=x)→l.map f=l
 |[],_=>rfl
 |x::l,h=>by rw[jF,h x be,ab' λy hy=>h y oT]
def TH{r i A B:Nat}(h:i<A):(jM r i).map (n7 (mv A B))=jM r i:=ab' λc hc=>by
 rcases bX.1 hc with h1|h1
 ·obtain⟨j,hj,rfl⟩:=nQ.1 h1;have:=kR.1 hj;show C.X (mv A B (1+j))=_;rw[uz af]
 ·rw[JP h1];rfl
def M5{α β:Type}(f:α→β)(c:α):∀(l:List α)(i:Nat),(l.set i c).map f=(l.map f).set i (f c)
 |[],_=>rfl
 |_::_,0=>rfl
 |x::l,i+1=>by rw[JS,jF,jF,JS,M5 f c l i]
def aca{c:C}{id:Nat}(al:id∈c.aD):∀{cs:List C},c∈cs→id∈cA cs
 |d::cs,h=>by
  rcases dx.1 h with e|e
  ·subst e;exact fM _ al
  ·exact jY _ (aca al e)
def acb{r i K q:Nat}(h:1+i≤K)(hq:q<K):∀j∈cA ((jM r i).set i (.X q)),j<K:=Sb λc hc id al=>by
 rcases List.mem_or_eq_of_mem_set hc with h1|h1
 ·exact Cz h id (aca al h1)
 ·subst h1;simp only[C.aD,jw]at al;omega
def oc(p:Nat)(l:Nat→List Int)(r i:Nat):List (List Int×Int):=(List.range i).map (λj=>(kO p (dN p l j r) (l j),(p:Int)))++List.replicate (r-i) ([],0)
def amP(p:Nat)(l:Nat→List Int)(r i:Nat)(h:i<r):(oc p l r i).set i (kO p (dN p l i r) (l i),(p:Int))=oc p l r (i+1):=by unfold oc;rw[pS _ _ be,show r-i=(r-(i+1))+1 by omega,v9,pW,dZ];simp
def TL(p:Nat)(l:Nat→List Int)(r i:Nat)(h:i≤r):(oc p l r i).length=r:=by unfold oc;simp;omega
def amQ(p:Nat)(l:Nat→List Int)(r:Nat){i:Nat}(h:i<r):(oc p l r r).getD i ([],0)=(kO p (dN p l i r) (l i),(p:Int)):=by unfold oc;rw[iG,wa,kp,Fg _ _ h]
abbrev IN(l:Nat→List Int)(xs:List (List Int×Int))(cs:List C)(ex:List (Nat×aJ))(i:Nat):List (Nat×aJ):=(1002000,.box 57 0 cs)::(2002000,.vec 101 TP xs)::(ex++gj i 44 .z l)
def AG{l:Nat→List Int}{xs:List (List Int×Int)}{cs:List C}{ex:List (Nat×aJ)}{i K:Nat}(eL:∀j∈cA cs,j<K)(hex:eO K ex)(h:i≤100)(hK:3000000≤K):eO K (IN l xs cs ex i):=
 .cons af eL (.cons af (λj hj=>by cases hj) (.app hex (.gj af)))
abbrev amR(l:Nat→List Int)(xs:List (List Int×Int))(r i:Nat):Nat→List (Nat×aJ)
 |0=>IN l xs (jM r i) [] i
 |j+1=>IN l xs ((jM r i).set i (.X 900000)) [(900000,.vec 44 .z ((l i).take (j+1)))] i
set_option maxHeartbeats 4000000 in
def amS{Q:fA}{p:Nat}{l:Nat→List Int}{r:Nat}(H:tf p l r)(a:List Int)(k:Nat)(y:Code)
  (rest:TR Tryz.prog 231 y ⟨[(0,cS .z a),(1,cS TP (je l r p)),(2,cU p),(3,cI k),(9,.c (.L 1002000 0 r (some r))),(10,.c (.X 2002000))],[(2002000,.vec 101 TP (oc p l r r))]++eX 1002000 57 r 44 .z l,5,[]⟩ Q) {c0 c1 c2 c3:Code} (hc:Tryz.f97.body=some (.seq c0 (.seq c1 (.seq c2 (.seq c3 y))))):
  TR Tryz.prog 231 (.seq c0 (.seq c1 (.seq c2 (.seq c3 y)))) ⟨kZ 0 [cS .z a,cS TP (je l r p),cU p,cI k],[],0,[]⟩ Q:=by
 generalize hz:y=z at rest⊢
 cases hc
 clear hz
 have hr:=H.M2
 have h2:=H.hp.1
 have dj:=H.dj
 have Fh:(je l r p).length=r:=by simp[je]
 have yh:∀i,i<r→(je l r p).getD i ([],0)=(l i,(p:Int)):=λi hi=>Fg _ _ hi
 refine rr ae (rb ?_)
 refine rk 2 ae ae (Zu ar r (hx:=az (λz:Nat=>some (cI (z:Int))) Fh) ae ae ae ak (by show r*24≤_;omega) af (re ae ?_))
 refine rb (rm TP r ae ae ae ae ae ae ab7 (by rw[Fh]) ?_ ?_ (re ae ?_))
 ·show _*32≤_;omega
 ·show _*2≤_;omega
 refine wO _ rest (λic=>rr ae (aK (bA (α:=Nat) (λi=>⟨[(0,cS .z a),(1,cS TP (je l r p)),(2,cU p),(3,cI k),(9,.c (.L 1002000 0 r (some r))),(10,.c (.X 2002000)),(43,cS TP (je l r p)),(44,cI r),(45,cI i)],IN l (oc p l r i) (jM r i) [] i,4,[]⟩) (λi=>i≤r) (λi=>r-i) 0 (bK _) ?_ ?_)))
 ·refine HZ ⟨sR ae,sR ae,sR ae,sR ae,sR ae,sR ae,sR ae,⟨_,ae,au.of_eq (az (λz:Nat=>cI (z:Int)) Fh)⟩,sR ae,ah⟩ ⟨bE ae ?_,bE ae ?_,ah⟩ (AG (Cz (by show 1+0≤1000000*4;decide)) .nil af (by show 3000000≤1000000*4;decide))
  ·exact az (aJ.box 57 0) (Sn vN r)
  ·rfl
 intro i hi
 refine rr ae (aj (ax ae (λh=>?_) (λh=>?_)))
 ·have h:i<r:=by have h:(i:Int)<(r:Int):=bc h;omega
  have qO:=H.c i h;have Er:=H.Ff i h;have qc:=H.l2 i h;have cK:(0:Int)<(p:Int):=af;have amT:aG Tryz.prog 125 [.a (av TP ((je l r p).getD ((i:Int)).toNat ([],0))),cU 1] (aP [1] p):=by rw[bw,yh i h];exact Ai (l i) 1 p cK af ak af
  refine aC (ai (aj (aK (rr ae (rb (rc ae ae amT (re ae ?_)))))));refine aj (rr ae (aK (bA (α:=Nat) (λj=>⟨[(0,cS .z a),(1,cS TP (je l r p)),(2,cU p),(3,cI k),(9,.c (.L 1002000 0 r (some r))),(10,.c (.X 2002000)),(11,cI i),(12,.c (.P 5003000 0)),(13,.c (.P 6002000 0)),(43,cS TP (je l r p)),(44,cI r),(45,cI i),(52,cS TP (je l r p)),(53,cI r),(54,cI j)],IN l (oc p l r i) (jM r i) [(5003000,.box 101 0 [.S aM (l i),.I .u64 p]),(6002000,.box 101 0 [.S aM (dN p l i j),.I .u64 p])] i,8,[]⟩) (λj=>j≤r) (λj=>r-j) 0 (bK _) ?_ ?_)))
  ·refine HZ ⟨sR ae,sR ae,sR ae,sR ae,sR ae,sR ae,sR ae,sR ae,sR ae,sR ae,sR ae,sR ae,sR ae,sE ae ?_,sR ae,ah⟩ ⟨bR ae,bR ae,bE ae ?_,bR ae,iM.gj λq hq=>cz⟩ (AG (Cz VJ) (eO.of ae) af VK)
   ·exact az (λz:Nat=>cI (z:Int)) Fh
   ·exact az (λz:List Int×Int=>aJ.box 101 0 [.S aM z.1,.I .u64 z.2]) (yh i h)
  intro j hj;have hoj:=H.yJ h j hj;refine rr ae (aj (ax ae (λhc=>?_) (λhc=>?_)))
  ·have pI:j<r:=by have hc:(j:Int)<(r:Int):=bc hc;omega
   have AH:=H.c j pI;have Rq:=H.Ff j pI;have yD:aG Tryz.prog 159 [aP (l i) p,aP (dN p l i j) p,.a (av TP ((je l r p).getD ((j:Int)).toNat ([],0)))] (aP (bM (eC (dN p l i j) (l j) p) (l i) p).2 p):=by rw[bw,yh j pI];exact HL p H.hp H.dj (l i) (dN p l i j) (l j) af af af qO hoj.1 AH (H.ne h)
   refine aC (ai (aj (aK (rr ae (rr ae (ax ae (λaN=>?_) (λaN=>?_)))))))
   ·have aN:j≠i:=λe=>by subst e;exact absurd ae (qA aN)
    refine cG (rc ae ae yD (re ae ?_));refine a7 (ai (rt ae (a8 (j+1) pI (by show r-(j+1)<r-j;omega) (HZ ⟨sR ae,sR ae,sR ae,sR ae,sR ae,sR ae,sR ae,sR ae,sR ae,sR ae,sR ae,sR ae,sR ae,sR ae,sR ae,ah⟩ ⟨bR ae,bR ae,bR ae,bE ae ?_,iM.gj λq hq=>cz⟩ (AG (Cz VJ) (eO.of ae) af VK)))));rw[dN,aq aN];rfl
   ·have aN:j=i:=by have:=qC aN;omega
    refine aC ?_;refine a7 (ai (rt ae (a8 (j+1) pI (by show r-(j+1)<r-j;omega) (HZ ⟨sR ae,sR ae,sR ae,sR ae,sR ae,sR ae,sR ae,sR ae,sR ae,sR ae,sR ae,sR ae,sR ae,sR ae,sR ae,ah⟩ ⟨bR ae,bR ae,bR ae,bE ae ?_,iM.gj λq hq=>cz⟩ (AG (Cz VJ) (eO.of ae) af VK)))));rw[dN,aw aN]
  ·have pI:r=j:=by have hc:¬(j:Int)<(r:Int):=bC hc;omega
   subst pI;have hinv:=ajT p H.hp H.dj (dN p l i r) (l i) af hoj.1 qO af (H.wU i h) qc;refine bp (bu (br (bq (ai ?_))));refine rb (rc ae ae hinv (lO (kO p (dN p l i r) (l i),(p:Int)) ae ae ae ae ae ?_ (re ae ?_) (hp:=?_)))
   ·rw[TL p l r i hi];omega
   ·refine rr ae (aK (bA (α:=Nat) (λj=>⟨[(0,cS .z a),(1,cS TP (je l r p)),(2,cU p),(3,cI k),(9,.c (.L 1002000 0 r (some r))),(10,.c (.X 2002000)),(11,cI i),(43,cS TP (je l r p)),(44,cI r),(45,cI i),(74,cS aM (l i)),(75,cI (l i).length),(76,cI j)],amR l (oc p l r (i+1)) r i j,12,[]⟩) (λj=>j≤(l i).length) (λj=>(l i).length-j) 0 (bK _) ?_ ?_))
    ·refine HZ ⟨sR ae,sR ae,sR ae,sR ae,sR ae,sR ae,sR ae,sR ae,sR ae,sR ae,sR ae,sR ae,sR ae,ah⟩ ⟨bR ae,bE ae ?_,iM.gj λq hq=>cz⟩ (AG (Cz VL) .nil af VM);exact az (aJ.vec 101 TP) (amP p l r i h)
    intro j hj;have Mx:=qO.1 j;have Fi:aG Tryz.prog 100 [.c (num .i64 ((l i).getD ((j:Int)).toNat 0)).1] (aZ ((l i).getD j 0)):=by rw[bw];exact oH _ af af
    have M6: -9223372036854775808≤(l i).getD ((j:Int)).toNat 0∧(l i).getD ((j:Int)).toNat 0≤9223372036854775807:=by rw[bw];omega
    cases j with
    |zero=>
     refine rr ae (aj (ax ae (λhc=>?_) (λhc=>?_)))
     ·refine aC (ai (aj (aK (rr ae (cG ?_)))));refine iR ae ae ?_ (mE ar (c:=vN) ae ae ?_ ae ?_)
      ·exact⟨by show(0:Int)≤(i:Int);omega,by show(i:Int)<(r:Int);omega⟩
      ·show(jM r i)[0+((i:Int)).toNat*1]? =_;rw[bw,eR,kT];exact amM r i h
      refine rc ae ae Fi ?_ (hp:=VN);refine rl .z [(l i).getD 0 0] ae ae (Qq ae ae ae ae ae ae ae ae ?_ ?_ ?_)
      ·show _*32≤_;simp
      ·show _*2≤_;simp
      refine iR ae ae ?_ (EE ar ae ae ae ae ae ?_ (re ae ?_ (ho:=qK gI)))
      ·exact⟨by show(0:Int)≤(i:Int);omega,by show(i:Int)<(r:Int);omega⟩
      ·show 0+((i:Int)).toNat*1<_;rw[TE r i hi];omega
      ·refine a7 (ai (rt ae (a8 1 af (by show(l i).length-1<(l i).length-0;omega) (xc (mv 900000 14010000) ⟨sR ae,sR ae,sR ae,sR ae,sR ae,sR ae,sR ae,sR ae,sR ae,sR ae,sR ae,sR ae,sR ae,ah⟩ ⟨bE ae ?_,bR ae,bE ae ?_,jS.gj λq hq=>?_⟩ ae (TF VO) (AG (acb VL (by show 900000<1000000*12;decide)) (eO.of ae) af VM)))))
       ·show aJ.box 57 0 ((jM r i).set (0+((i:Int)).toNat*1) (.X 14010000))=aJ.box 57 0 (((jM r i).set i (.X 900000)).map (n7 (mv 900000 14010000)));rw[M5,TH af,bw,eR,kT];rfl
       ·exact az (aJ.vec 44 .z) (ab8 (l i) (j:=0) af)
       ·rw[uz af];exact cz
     ·exfalso;have hc:¬((0:Nat):Int)<((l i).length:Int):=bC hc;omega
    |succ j=>
     have lM:((l i).take (j+1)).length=j+1:=y7
     refine rr ae (aj (ax ae (λhc=>?_) (λhc=>?_)))
     ·have m9:j+1<(l i).length:=by have hc:((j+1:Nat):Int)<((l i).length:Int):=bc hc;omega
      refine aC (ai (aj (aK (rr ae (cG ?_)))));refine iR ae ae ?_ (mE ar (c:= .X 900000) ae ae ?_ ae ?_)
      ·exact⟨by show(0:Int)≤(i:Int);omega,by show(i:Int)<(r:Int);omega⟩
      ·show((jM r i).set i (.X 900000))[0+((i:Int)).toNat*1]? =_;rw[bw,eR,kT,List.getElem?_set_self (by rw[TE r i hi];omega)]
      refine rc ae ae Fi ?_ (hp:=VN);refine rl .z [(l i).getD (j+1) 0] ae ae (ra ae ae ae ae ae ae ae ae ae ?_ ?_ ?_)
      ·show(_+1+(_+1)/4+192)*32≤_;rw[lM];omega
      ·show(_+1)*2≤_;rw[lM];omega
      refine iR ae ae ?_ (EE ar ae ae ae ae ae ?_ (re ae ?_ (ho:=qK gI)))
      ·exact⟨by show(0:Int)≤(i:Int);omega,by show(i:Int)<(r:Int);omega⟩
      ·show 0+((i:Int)).toNat*1<_;rw[gK,TE r i hi];omega
      ·refine a7 (ai (rt ae (a8 (j+1+1) af (by show(l i).length-(j+1+1)<(l i).length-(j+1);omega) (xc (mv 900000 14010000) ⟨sR ae,sR ae,sR ae,sR ae,sR ae,sR ae,sR ae,sR ae,sR ae,sR ae,sR ae,sR ae,sR ae,ah⟩ ⟨bE ae ?_,bR ae,bE ae ?_,jS.gj λq hq=>?_⟩ ae (TF VO) (AG (acb VL (by show 900000<1000000*12;decide)) (eO.of ae) af VM)))))
       ·show aJ.box 57 0 (((jM r i).set i (.X 900000)).set (0+((i:Int)).toNat*1) (.X 14010000))=aJ.box 57 0 (((jM r i).set i (.X 900000)).map (n7 (mv 900000 14010000)));rw[M5,TH af,bw,eR,kT,List.set_set];rfl
       ·exact az (aJ.vec 44 .z) (ab8 (l i) m9)
       ·rw[uz af];exact(by(repeat(refine(bH af).trans ?_));refine(amO af).trans ?_;(repeat(refine(bH af).trans ?_));exact cr af)
     ·have m9:(l i).length=j+1:=by have hc:¬((j+1:Nat):Int)<((l i).length:Int):=bC hc;omega
      have hta:(l i).take (j+1)=l i:=by rw[←m9,iV]
      refine bp (bu (br (bq (a7 (ai (rt ae (a8 (i+1) h (by show r-(i+1)<r-i;omega) (xc (mv (1+i) 900000) ⟨sR ae,sR ae,sR ae,sR ae,⟨_,ae,au.of_eq (az (λz=>AV.c (.L z 0 r (some r))) (uz af).symm)⟩,⟨_,ae,au.of_eq (az (λz=>AV.c (.X z)) (uz af).symm)⟩,sR ae,sR ae,sR ae,ah⟩ ⟨⟨_,mvl af ae,dd.of_eq ?_⟩,⟨_,mvl af ae,dd.refl _⟩,jS.gj λq hq=>?_⟩ (uz af) (TF VO) (AG (Cz (by show 1+(i+1)≤1000000*4;omega)) .nil af (by show 3000000≤1000000*4;decide))))))))))
      ·show aJ.box 57 0 ((jM r i).set i (.X 900000))=aJ.box 57 0 ((jM r (i+1)).map (n7 (mv (1+i) 900000)));rw[←amN r i h,M5,TH af];show _=aJ.box 57 0 ((jM r i).set i (.X (mv (1+i) 900000 (1+i))));rw[M4]
      ·by_cases e:q=i
       ·subst e;rw[M4];exact az (λz=>some (aJ.vec 44 .z z)) hta
       ·rw[uz af];exact cz
   ·have:=TL p l r i hi;simp only[Pr.an,Pr.h,num,aA,true_and,and_true];omega
 ·have dM:r=i:=by have h:¬(i:Int)<(r:Int):=bC h;omega
  subst dM;refine bp (bu (br (bq (my ic (iy ⟨sR ae,sR ae,sR ae,sR ae,sR ae,sR ae,ah⟩ ⟨bR ae,ah⟩ (az (λz=>some (aJ.box 57 0 z)) (amK r)) (λq hq=>cz) af)))))
end Go.El
