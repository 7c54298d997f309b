/- Plain law: the sorted factors. Own work; no condition. -/
import Derived.Test.YtkkccchkmcjcpaaGreatR14
import Derived.Test.YtkkccchkmcjcpaaGreatR11
import Derived.Test.YtkkccchkmcjcpaaGreatR6
import Derived.Test.YtkkccchkmcjcpaaGreatR10
import Derived.Test.YtkkccchkmcjcpaaGreatR9
set_option linter.defProp false
set_option linter.unusedVariables false
set_option linter.unusedSimpArgs false
set_option linter.unnecessarySimpa false
namespace Go.El
open Go Go.Proofs Fx
def arL{p:Nat}{l l':List (List Int×Int)}(h:l.Perm l'):kH p l=kH p l':=by
 induction h with
 |nil=>rfl
 |cons x _ ih=>rw[kH,kH,ih]
 |swap x y l=>rw[kH,kH,kH,kH,←mul_assoc,←mul_assoc,mul_comm (pk (fx y.1) _)]
 |trans _ _ h1 h2=>rw[h1,h2]
def yE.perm{p:Nat}{F:Fx p}{l l':List (List Int×Int)}(h:yE p F l)(hp:l'.Perm l):yE p F l':=
 ⟨λx hx=>h.parts x (hp.mem_iff.1 hx),hp.symm.pairwise h.ds (λPh e=>Ph e.symm),(arL hp).trans h.prod⟩
def xt(l:List (List Int×Int)):Nat:=(l.map λx=>(x.1.length-1)*x.2.toNat).sum
def afX{p:Nat}(H:bI p){Q:Fx p}(hQ:Q≠0):∀e,sz (pk Q e)=(sz Q-1)*e+1
 |0=>by rw[show pk Q 0=1 from ae,oK H,J6]
 |e+1=>by have h1:=eK H (vt H hQ e) (vt H hQ 1);rw[←wX,afX H hQ e,show pk Q 1=Q by rw[pk,pk,one_mul]]at h1;have:=eN H.pos hQ;rw[Gd];omega
def Vu{p:Nat}(H:bI p):∀l:List (List Int×Int),(∀x∈l,Mon p x.1)→kH p l≠0∧sz (kH p l)=xt l+1
 |[],_=>⟨n6 H,oK H⟩
 |x::l,h=>by
  obtain⟨h1,h2⟩:=Vu H l (λy hy=>h y (v8 _ hy));have hx:=h x (Db ..);have Dx:(fx x.1:Fx p)≠0:=λe=>hx.ne (w9 hx.c (vo H.pos) (e.trans n5.symm))
  have hm:=eK H (vt H Dx x.2.toNat) h1;refine⟨oJ H (vt H Dx _) h1,?_⟩;rw[afX H Dx,de hx.c,h2]at hm;rw[kH,show xt (x::l)=(x.1.length-1)*x.2.toNat+xt l from ae];omega
def arM{l:List (List Int×Int)}{x:List Int×Int}(h:x∈l):(x.1.length-1)*x.2.toNat≤xt l:=by
 induction l with
 |nil=>cases h
 |cons y l ih=>
  rw[show xt (y::l)=(y.1.length-1)*y.2.toNat+xt l from ae]
  rcases dx.1 h with rfl|h
  ·omega
  ·have:=ih h;omega
def arN{p:Nat}{l:List (List Int×Int)}(h:∀x∈l,Mon p x.1∧2≤x.1.length∧cp (fx x.1:Fx p)∧1≤x.2):l.length≤xt l:=by
 induction l with
 |nil=>exact bK _
 |cons y l ih=>
  have:=ih (λx hx=>h x (v8 _ hx))
  obtain⟨_,h2,_,h4⟩:=h y (Db ..)
  rw[show xt (y::l)=(y.1.length-1)*y.2.toNat+xt l from ae,fk]
  have h5:1*1≤(y.1.length-1)*y.2.toNat:=nk af af
  omega
def yE.bnd{p:Nat}(H:bI p){f:List Int}{l:List (List Int×Int)}(hf:Mon p f)(h:yE p (fx f) l):l.length+1≤f.length∧∀x∈l,Mon p x.1∧2≤x.1.length∧x.1.length≤f.length∧cp (fx x.1:Fx p)∧1≤x.2∧x.2+1≤(f.length:Int):=by have h1:=(Vu H l (λx hx=>(h.parts x hx).1)).2;rw[h.prod,de hf.c]at h1;refine⟨by have:=arN h.parts;omega,λx hx=>?_⟩;obtain⟨k1,k2,k3,k4⟩:=h.parts x hx;have h2:=arM hx;have h3:(x.1.length-1)*1≤(x.1.length-1)*x.2.toNat:=lE _ af;have h4:1*x.2.toNat≤(x.1.length-1)*x.2.toNat:=dY _ af;exact⟨k1,k2,by omega,k3,k4,by omega⟩
def afZ{a b:Int}(h:lh a b=0):a=b:=by unfold lh at h;split at h<;>(try split at h)<;>omega
def af0(a b:List Int):∀n,uq a b n=0→∀i,i<n→a.getD i 0=b.getD i 0
 |0,_,i,h=>by omega
 |n+1,h,i,hi=>by
  rw[uq]at h;split at h
  ·rename_i h2;exact absurd h h2
  ·rename_i h2;have h2:lh (a.getD n 0) (b.getD n 0)=0:=af;by_cases e:i=n
   ·subst e;exact afZ h2
   ·exact af0 a b n h i af
def arO{a b:List Int}(h:lj a b=0):a=b:=by
 unfold lj at h;split at h
 ·rename_i h2;have:=afZ h;omega
 ·rename_i h2;have h2:a.length=b.length:=af;refine nP h2 λi h3 h4=>?_
  have:=af0 a b _ h i h3;rwa[aY,ct h3,aY,ct h4]at this
def arP{xs:List (List Int×Int)}(hd:(lZ xs (xs.length-1)).Pairwise λx y=>x.1≠y.1){t:Nat}(ht:t+1<xs.length):lj ((lZ xs (xs.length-1)).getD t fU).1 ((lZ xs (xs.length-1)).getD (t+1) fU).1<0:=by
 have h1:=aa8 xs (xs.length-1) af t af;have hl:=EZ xs (xs.length-1);rw[aa6]at h1;have h2:lj ((lZ xs (xs.length-1)).getD t fU).1 ((lZ xs (xs.length-1)).getD (t+1) fU).1≠0:=λe=>by have e:=arO e;rw[getM af,getM af]at e;exact OG.1 hd t (t+1) af af af e
 omega
def af1{a b:Nat}(h:a*b=1):a=1∧b=1:=by have e:=Nat.dvd_one.1 ⟨b,h.symm⟩;subst e;omega
def On:dH 5:=⟨by decide,λd h1 h2=>by have h3:d≤2:=Nat.le_of_lt_succ (Nat.lt_of_not_le λh=>by have:=nk h h;omega);have e:d=2:=af;subst e;decide⟩
def P5:bI 5:=⟨On,by decide⟩
def uF(a:List Int)(h:a6 (md 5 a)=a):bV 5 a:=by rw[←h];exact nC ak (BY ak _)
def FI:Mon 5 [1,0,1]:=⟨uF _ ae,by decide,ae⟩
def Vv{q:List Int}(h:Mon 5 q)(h2:q.length=2):∃c:Nat,c<5∧q=[(c:Int),1]:=by
 match q,h2 with
 |[c,d],_=>
  have h1:d=1:=h.one
  have h3:=h.c.1 0
  have h4:0≤c∧c<5:=h3
  exact⟨c.toNat,by omega,by rw[h1,F5 h4.1]⟩
def fx5{a b:List Int}(h:(fx [1,0,1]:Fx 5)=fx a*fx b):eC a b 5=[1,0,1]:=by have h1:(fx (eC a b ((5:Nat):Int)):Fx 5)=fx [1,0,1]:=(HN a b).trans h.symm;exact w9 (nD ak a b) (uF _ ae) h1
def arQ{p:Nat}(A:Fx p):pk A 2=A*A:=by show 1*A*A=_;rw[one_mul]
def Vw{p:Nat}(A:Fx p):pk A 1=A:=by show 1*A=_;rw[one_mul]
def arR{xs:List (List Int×Int)}(h:yE 5 (fx [1,0,1]:Fx 5) xs)(ha:∀t,t+1<xs.length→lj (xs.getD t fU).1 (xs.getD (t+1) fU).1<0):xs=[([2,1],1),([3,1],1)]:=by
 have hw:=(Vu P5 xs λx hx=>(h.parts x hx).1).2;have hp:=h.prod;rw[hp,de FI.c]at hw;have hw:3=xt xs+1:=hw;obtain⟨b1,b2⟩:=h.bnd P5 FI;have b1:xs.length+1≤3:=b1;match xs,b1 with
 |[],_=>exact absurd hw ak
 |[(q,n)],_=>
  exfalso
  obtain⟨c1,c2,c3,c4,c5,c6⟩:=b2 (q,n) be
  have hw:3=(q.length-1)*n.toNat+0+1:=hw
  have c3:q.length≤3:=c3
  have c6:n+1≤3:=c6
  simp only at c1 c2 c4 c5
  have hp:pk (fx q) n.toNat*1=(fx [1,0,1]:Fx 5):=hp
  rw[mul_one]at hp
  by_cases e:q.length=3
  ·have en:n.toNat=1:=by rw[e]at hw;omega
   rw[en,Vw]at hp;rw[hp]at c4;have hm:(fx [1,0,1]:Fx 5)=fx [2,1]*fx [3,1]:=by rw[←HN];rfl
   have s1:sz (fx [2,1]:Fx 5)=2:=de (uF _ ae);have s2:sz (fx [3,1]:Fx 5)=2:=de (uF _ ae);have:=c4.2 _ _ hm;omega
  ·have e:q.length=2:=by omega
   have en:n.toNat=2:=by rw[e]at hw;omega
   obtain⟨c,hc,rfl⟩:=Vv c1 e;rw[en,arQ]at hp;have:=fx5 hp.symm;revert this;have:∀c:Fin 5,¬eC [((c:Nat):Int),1] [((c:Nat):Int),1] 5=[1,0,1]:=ak;exact this ⟨c,hc⟩
 |[(q,n),(r,m)],_=>
  obtain⟨c1,c2,c3,c4,c5,c6⟩:=b2 (q,n) be
  obtain⟨d1,d2,d3,d4,d5,d6⟩:=b2 (r,m) be
  have hw:3=(q.length-1)*n.toNat+((r.length-1)*m.toNat+0)+1:=hw
  simp only at c1 c2 c5 d1 d2 d5
  have h1:=nk (show 1≤q.length-1 by omega) (show 1≤n.toNat by omega)
  have h2:=nk (show 1≤r.length-1 by omega) (show 1≤m.toNat by omega)
  have e1:(q.length-1)*n.toNat=1:=af
  have e2:(r.length-1)*m.toNat=1:=af
  obtain⟨e3,e4⟩:=af1 e1
  obtain⟨e5,e6⟩:=af1 e2
  have en:n=1:=af
  have em:m=1:=af
  subst en em
  obtain⟨c,hc,rfl⟩:=Vv c1 af
  obtain⟨d,hd,rfl⟩:=Vv d1 af
  have hp:pk (fx [(c:Int),1]) 1*(pk (fx [(d:Int),1]) 1*1)=(fx [1,0,1]:Fx 5):=hp
  rw[mul_one,Vw,Vw]at hp
  have h3:=fx5 hp.symm
  have h4:=ha 0 (fN 1)
  have h4:lj [(c:Int),1] [(d:Int),1]<0:=h4
  have:∀c d:Fin 5,eC [((c:Nat):Int),1] [((d:Nat):Int),1] 5=[1,0,1]→lj [((c:Nat):Int),1] [((d:Nat):Int),1]<0→(c:Nat)=2∧(d:Nat)=3:=ak
  obtain⟨f1,f2⟩:=this ⟨c,hc⟩ ⟨d,hd⟩ h3 h4
  have f1:c=2:=f1
  have f2:d=3:=f2
  subst f1 f2
  rfl
 |_::_::_::_,b=>exact absurd b be
def arS:LiB 5 [1,0,1] [[2,1],[3,1]] 2 1:=by
 have hg:∀i,i<2→(([[2,1],[3,1]]:List (List Int)).getD i [])=[2,1]∧i=0∨(([[2,1],[3,1]]:List (List Int)).getD i [])=[3,1]∧i=1:=λi hi=>by
  match i,hi with
  |0,_=>exact .inl ⟨ae,ae⟩
  |1,_=>exact .inr ⟨ae,ae⟩
 refine⟨⟨⟨On,by decide,by decide,λi hi=>?_,λi hi=>?_,λi hi=>?_,λi hi=>?_⟩,by decide,by decide,by decide,by decide,λi=>?_,by decide⟩,by decide,by decide,by decide,ae,λi hi=>?_,λi hi=>?_,λi hi=>?_,by decide⟩
 ·rcases hg i hi with⟨e,_⟩|⟨e,_⟩<;>rw[e]<;>exact uF _ ae
 ·rcases hg i hi with⟨e,_⟩|⟨e,_⟩<;>rw[e]<;>decide
 ·rcases hg i hi with⟨e,_⟩|⟨e,_⟩<;>rw[e]<;>decide
 ·match i,hi with
  |0,_=>
   have e:dN 5 (λi=>([[2,1],[3,1]]:List (List Int)).getD i []) 0 2=[1]:=ak
   show gi _ (ps (dN 5 (λi=>([[2,1],[3,1]]:List (List Int)).getD i []) 0 2)) _
   rw[e]
   exact(RN On ak (uF [1] ae) (uF [2,1] ae)).1 ak
  |1,_=>
   have e:dN 5 (λi=>([[2,1],[3,1]]:List (List Int)).getD i []) 1 2=[4]:=ak
   show gi _ (ps (dN 5 (λi=>([[2,1],[3,1]]:List (List Int)).getD i []) 1 2)) _
   rw[e]
   exact(RN On ak (uF [4] ae) (uF [3,1] ae)).1 ak
 ·match i with
  |0=>exact aU.one ak
  |1=>exact aU.one ak
  |2=>exact aU.one ak
  |i+3=>exact aU.one (a:=0) ak
 ·rcases hg i hi with⟨e,_⟩|⟨e,_⟩<;>rw[e]<;>rfl
 ·match i,hi with
  |0,_=>exact⟨uF [1] ae,by decide,by decide⟩
  |1,_=>exact⟨uF [2,1] ae,by decide,by decide⟩
  |2,_=>exact⟨uF [1,0,1] ae,by decide,by decide⟩
 ·match i,hi with
  |0,_=>decide
  |1,_=>decide
end Go.El
namespace Go.El
open Go Go.Proofs
section
variable{n:Nat}{sl sl':List (Nat×AV)}{mem mem':List (Nat×aJ)}{nx:Nat}{gd gd':List (Nat×Bool)}{ops:Array Oper}{draw:Bool}{p:Pr}{ks cj:List Ks}{i i' n0 b7:Nat}
variable{R:St→Prop}{os:List Oper}{d:Nat}{ty:TypeId}{pos:String}{cJ:Array Edge}{cE:List Oper}
def JB(T:ET)(xs:List T.den){t len:Nat}{parts:Array (Nat×Operand)}{j tg:Nat}{want b:Bool}(h:runs eB n nx draw ops.toList os i ⟨sl,mem,n0,gd⟩ .t ks=(⟨some d,.buildSlice t len parts,ty,pos,cJ,some (j,want)⟩::cE,i',⟨sl',mem',b7,gd'⟩,p,cj))(hj:wD ops.toList j=some tg)(hb:ao tg sl'=some (.c (.B b)))(uV:b=want){E:Nat}{ei:TI}(hv:BA eB ⟨sl',mem',b7,gd'⟩ t len parts.toList=some (E,ei,xs.flatMap (av T)))
  (hk:RG Tryz.prog n ops draw nx (i'+1) cE ⟨(d,.c (.S T xs))::sl',mem',b7,gd'⟩ (fi draw cj (.s tg::cF (Op.buildSlice t len parts).operands.toList,[.s d])) R) (hT:ei.size=T.n:=by rfl) (qj:xs.length=len:=by rfl) (sQ:Nat.ble (len*T.n) 16777216=true:=by rfl)
  (hp:p:=by first|trivial| (simp only[Pr.an,Pr.h,num,aA,true_and,and_true];first|done|omega)| (simp[Pr.an,Pr.h,num,aA];done)| (simp[Pr.an,Pr.h,num,aA];omega)) (aV:Nat.blt d n=true:=by rfl):RG Tryz.prog n ops draw nx i os ⟨sl,mem,n0,gd⟩ ks R:=
 jB ar h hp (kM (λho=>KA ho ae hj hb uV (Xd (ops:= #[⟨some d,.buildSlice t len parts,ty,pos,cJ,none⟩]) (i:=0) ae ae ae (cT aV) _ VD (λ_ _ _ _ _ _ aH bt=>P7 ar aH ae hT qj (cT sQ) hv bt))) (jA hk))
end
def arT:aG Tryz.prog 12 [cS aM [1,0,1],cU 5] (.t [(false,[.S MT [([2,1],1),([3,1],1)]]),(false,[.I .i64 0])]):=by
 have e1:a6 (md ((5:Nat):Int) [1,0,1])=[1,0,1]:=ak;have e2:lS ((5:Nat):Int) [1,0,1]=[1,0,1]:=ak;have hF:yE 5 (Fx.fx [1,0,1]) (qP P5 3 [1,0,1] 1 []):=alC P5 FI ak;have hB:=hF.bnd P5 FI;have e3:CY P5 [1,0,1]=qP P5 3 [1,0,1] 1 []:=by unfold CY;rw[e1,e2];rfl
 have hS:yE 5 (Fx.fx [1,0,1]) (Om P5 [1,0,1]):=by
  unfold Om;rw[e3];by_cases e:(qP P5 3 [1,0,1] 1 []).length=0
  ·rw[e];exact hF
  ·exact hF.perm (Tb _ _ af)
 have hSl:(Om P5 [1,0,1]).length=(CY P5 [1,0,1]).length:=EZ _ _;have h:=arJ P5 ak [1,0,1] ak (λi=>(FI.c.1 i).1) (by rw[e1];decide) (by rw[e1,e2];exact FI) (by rw[e1,e2];decide) (by rw[e3];have:_+1≤3:=hB.1;omega) (λx hx=>by rw[e3]at hx;have:x.1.length≤3:=(hB.2 x hx).2.2.1;omega);rwa[arR hS λt ht=>arP hS.ds af]at h
def arU:aG Tryz.prog 29 [cS .z [1,0,1],cS (.sl aM) [[2,1],[3,1]],cU 5,cI 2] (.t [(false,[.S (.sl .z) [[7,1],[-7,1]]]),(false,[.I .i64 0])]):=by have h:=ank arS;have e:AF 5 [1,0,1] (λi=>([[2,1],[3,1]]:List (List Int)).getD i []) ([[2,1],[3,1]]:List (List Int)).length 2=[[7,1],[-7,1]]:=ak;rwa[e]at h
def Vx{b:List Int}(lb:b.length≤1000)(hb:∀x∈b,0≤x∧x<4294967296)(ht:a6 b=b):aG Tryz.prog 40 [cS aM b] (cS .z b):=by
 have h:=amz b lb λi=>by
  rw[aY];by_cases h:i<b.length
  ·rw[ct h];exact hb _ (mO h)
  ·rw[ni af];decide
 rwa[ht]at h
def Vy{l:List Int}{a:List Rat}(hl:∀x∈l,-128≤x∧x≤127)(h:ib l 4=a):aG Tryz.prog 17 [cS I8 l,cI 4] (cS .q a):=h▸Yw l 4 ak hl
def Vz(k:Rat){u:List Rat}(h:[k*k+1,-(k+k),1]=u):u.getD (u.length-1) 0=1∧Rx.cp (Rx.lx u):=by subst h;exact⟨ae,arp k⟩
def arV{fs:List (List Rat×Int)}(H:sa [4,0,0,0,1] fs):fs=[([2,-2,1],1),([2,2,1],1)]:=by
 obtain⟨u1,u2⟩:=Vz 1 (u:=[2,-2,1]) vZ;obtain⟨v1,v2⟩:=Vz (-1) (u:=[2,2,1]) vZ;have hc:Rx.dp [4,0,0,0,1]:=Or.inr OF;have hm:Rx.lx [4,0,0,0,1]=Rx.lx [2,-2,1]*Rx.lx [2,2,1]:=by have h:=Vk [2,-2,1] [2,2,1] 3 (bF _);have e:jg [2,-2,1] [2,2,1] 3=[4,0,0,0,1]:=vZ;rw[e]at h;exact h
 have e0:Rx.lx (dI [4,0,0,0,1])=Rx.lx [4,0,0,0,1]:=afU ae;have mu:=Vp H u1 u2 (by rw[e0,hm];exact Rx.dvd_mul_right _ _);have mv:=Vp H v1 v2 (by rw[e0,hm];exact Rx.dvd_mul_left _ _);have hw:nh fs+1=5:=(H.wt hc).resolve_right ak;have hb:=λx(hx:x∈fs)=>H.big hx
 have CW:=H.adj;generalize vW [2,-2,1] fs=n at mu;generalize vW [2,2,1] fs=m at mv;have bn:1≤n:=(hb _ mu).2;have bm:1≤m:=(hb _ mv).2;have lu:∀(k:Int) l,nh ((([2,-2,1]:List Rat),k)::l)=k.toNat*2+nh l:=λk l=>rfl
 have lv:∀(k:Int) l,nh ((([2,2,1]:List Rat),k)::l)=k.toNat*2+nh l:=λk l=>rfl
 obtain⟨s,t,rfl⟩:=Dc mu;rcases bX.1 mv with h|h
 ·exfalso;obtain⟨s1,s2,rfl⟩:=Dc h;have w1:=yV (l:=s1) λx hx=>hb x lC
  have w2:=yV (l:=s2) λx hx=>hb x lC
  have w3:=yV (l:=t) λx hx=>hb x lC
  rw[FG,FG,lu,lv]at hw;have e1:s1=[]:=ik af;have e2:s2=[]:=ik af;have e3:t=[]:=ik af;subst e1 e2 e3;have h1:0≤yU [2,-2,1] [2,2,1]:=CW 0 (Nat.zero_lt_one);exact absurd h1 vZ
 ·rcases dx.1 h with h|h
  ·exact absurd (az (λx:List Rat×Int=>x.1.getD 1 0) h) (by show¬(2:Rat)= -2;decide)
  ·obtain⟨s1,s2,rfl⟩:=Dc h;have w1:=yV (l:=s1) λx hx=>hb x lC
   have w2:=yV (l:=s2) λx hx=>hb x lC
   have w3:=yV (l:=s) λx hx=>hb x lC
   rw[FG,lu,FG,lv]at hw;have e1:s1=[]:=ik af;have e2:s2=[]:=ik af;have e3:s=[]:=ik af;have e4:n=1:=af;have e5:m=1:=af;subst e1 e2 e3 e4 e5;rfl
def arW{R:List Rat}(h:∀r,r∈R↔jX [-2,1,1] r 3=0)(hd:R.Nodup)(hs:∀t,t+1<R.length→R.getD t 0<R.getD (t+1) 0):R=[-2,1]:=by
 have h:∀r,r∈R↔r= -2∨r=1:=λr=>by
  rw[h r];show((0*r+1)*r+1)*r+ -2=0↔_;constructor
  ·intro e;have e:(r- -2)*(r-1)=0:=by grind
   rcases Dg.1 e with e|e
   ·left;grind
   ·right;grind
  ·rintro(rfl|rfl)<;>decide+kernel
 have m1:=(h (-2)).2 (.inl ae);have m2:=(h 1).2 (.inr ae);have hl:=FF hd (m:=[-2,1]) λx hx=>by rcases(h x).1 hx with rfl|rfl<;>simp
 match R,hl with
 |[],_=>cases m1
 |[x],_=>
  have e1:=jw.1 m1
  rw[←e1]at m2
  exact absurd (jw.1 m2) ak
 |[x,y],_=>
  have bh:x<y:=hs 0 (fN 1)
  rcases(h x).1 be with rfl|rfl<;>rcases(h y).1 be with rfl|rfl
  ·exact absurd bh ak
  ·rfl
  ·exact absurd bh ak
  ·exact absurd bh ak
 |_::_::_::_,b=>exact absurd b be
def arX{k:Nat}(a:Rat)(h:QS k a)(hk:k≤100000):aG Tryz.prog 20 [aQ a,aQ a] (cB true):=by have:=afu (k:=k) a a h af;rwa[ov ae]at this
set_option maxRecDepth 100000 in
set_option maxHeartbeats 16000000 in
def arY:aG Tryz.prog 9 [] (cB true):=by
 have a4:ib [4,0,0,0,1] 4=[4,0,0,0,1]:=vZ;have a2:ib [-2,1,1] 4=[-2,1,1]:=vZ;have a1:ib [1,0,1] 4=[1,0,1]:=vZ;have f4:=Oj (l:=[4,0,0,0,1]) (most:=4) ak (by rw[a4];decide);have f2:=Oj (l:=[-2,1,1]) (most:=4) ak (by rw[a2];decide);have f1:=Oj (l:=[1,0,1]) (most:=4) ak (by rw[a1];decide);rw[a4]at f4;rw[a2]at f2;rw[a1]at f1;obtain⟨fs,w1,_,_,w4⟩:=arv f4;rw[arV w1]at w4;obtain⟨R,r1,r2,_,r4,_,_,r7⟩:=Vs f2.can λ_=>f2
 have hR:R=[-2,1]:=arW (λr=>(r2 f2.ne r).trans (Vn _ r).symm) r7 r4;rw[hR]at r1;obtain⟨i1,i2⟩:=Vz 0 (u:=[1,0,1]) vZ;have hi:=aru f1 i1 i2;have hQ:QS 1 (-2:Rat):=⟨aU.one ak,aU.one ak⟩;have ve:=arX (k:=1) (-2) hQ ak;have hW:=yg (-2) ak ak;have Fu:=Y9 [2,1] [2,1] ak;have rV:=Y9 [3,1] [3,1] ak;have te:=Vx (b:=[1,0,1]) ak ak ak;have hI2:=Vx (b:=[7,1]) ak ak ak;have hI3:=Vx (b:=[1,2]) ak ak ak;have h71:∀i,aU 1 (([7,1]:List Int).getD i 0):=λi=>match i with
  |0=>aU.one ak
  |1=>aU.one ak
  |i+2=>aU.one (a:=0) ak
 have hsi:=amA [7,1] [7,1] ak (λi=>(h71 i).sm ak);have xQ:=abm [1,2] 1 ak ak (λi=>match i with
  |0=>aU.one ak
  |1=>aU.one ak
  |i+2=>aU.one (a:=0) ak)
 have Fi:=BR 6 ak ak;have BK:=ab0 6 6 ((aU.one (a:=6) ak).sm ak);have Ky:=Vy (l:=[4,0,0,0,1]) ak a4;have nq:=Vy (l:=[-2,1,1]) ak a2;have tJ:=Vy (l:=[1,0,1]) ak a1;have hn:=ars.a1 (au.nil .q);refine aX Tryz.func9 ae ae ae ae ae ak ?_;refine rr ae (rb (rl aM [1,0,1] ae ae (rc ae ae arT (re ae (aj ?_)))));refine rb (rg 14 ae ae (λh=>by cases h) (λ_=>rg 19 ae ae (λh=>by cases h) (λ_=>rg 26 ae ae (λh=>by cases h) (λ_=>?_))));refine JB aM [2,1] ae ae ae ae ae (ia ae ae ae ae ae Fu (rg 35 ae ae (λh=>by cases h) (λ_=>?_)));refine JB aM [3,1] ae ae ae ae ae (ia ae ae ae ae ae rV (re ae (ax ae (λh=>by cases h) (λ_=>aC (ai ?_)))));refine rb (rl aM [1,0,1] ae ae (rc ae ae te (rl aM [2,1] ae ae (rl aM [3,1] ae ae (rl (.sl aM) [[2,1],[3,1]] ae ae (rc ae ae arU (re ae (aj ?_))))))));refine rb (rg 55 ae ae (λh=>by cases h) (λ_=>rg 60 ae ae (λh=>by cases h) (λ_=>?_)));refine JB aM [7,1] ae ae ae ae ae (ia ae ae ae ae ae hI2 (ia ae ae ae ae ae hsi (re ae (ax ae (λh=>by cases h) (λ_=>aC (ai ?_))))));refine rb (rl I8 [4,0,0,0,1] ae ae (rc ae ae Ky (rc ae ae w4 (re ae (aj ?_)))));refine rb (rg 75 ae ae (λh=>by cases h) (λ_=>rg 81 ae ae (λh=>by cases h) (λ_=>rg 90 ae ae (λh=>by cases h) (λ_=>?_))));refine ia ae ae ae ae ae hW (ia ae ae ae ae ae ve (re ae (ax ae (λh=>by cases h) (λ_=>aC (ai ?_)))));refine rb (rl I8 [-2,1,1] ae ae (rc ae ae nq (rc ae ae r1 (re ae ?_))));refine rb (rg 108 ae ae (λ_=>?_) (λh=>by cases h))
 refine ia ae ae ae ae ae hW (ia ae ae ae ae ae ve (rg 115 ae ae (λ_=>?_) (λh=>by cases h)));refine JB aM [1,2] ae ae ae ae ae (ia ae ae ae ae ae hI3 (ia ae ae ae ae ae xQ (ia ae ae ae ae ae Fi (ia ae ae ae ae ae BK (rg 122 ae ae (λ_=>?_) (λh=>by cases h))))));refine JB I8 [1,0,1] ae ae ae ae ae (ia ae ae ae ae ae tJ (ia ae ae ae ae ae hi (rg 127 ae ae (λ_=>?_) (λh=>by cases h))));exact ia ae ae ae ae ae hn (re ae (aF (aL ar ae (au.refl _))))
end Go.El
