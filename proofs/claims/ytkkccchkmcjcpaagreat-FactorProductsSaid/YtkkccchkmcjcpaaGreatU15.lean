/- Contract: the sanity check, out of the contracts. Own work; no condition. -/
import Derived.Test.YtkkccchkmcjcpaaGreatU14
import Derived.Test.YtkkccchkmcjcpaaGreatU6
import Derived.Test.YtkkccchkmcjcpaaGreatU10
import Derived.Test.YtkkccchkmcjcpaaGreatU9
set_option linter.defProp false
set_option linter.unusedVariables false
set_option linter.unusedSimpArgs false
set_option linter.unnecessarySimpa false
namespace Go.El
open Go Go.Proofs
section
variable{n:Nat}{sl sl':List (Nat×AV)}{mem mem':List (Nat×aK)}{nx:Nat}{gd gd':List (Nat×Bool)}{ops:Array Oper}{draw:Bool}{p:Pr}{ks cp:List Ks}{i i' n0 cd:Nat}
variable{R:St→Prop}{os:List Oper}{d:Nat}{ty:TypeId}{pos:String}{cJ:Array Edge}{cG:List Oper}
def Ka(T:ET)(xs:List T.den){t len:Nat}{parts:Array (Nat×Operand)}{j tg:Nat}{want b:Bool}(h:runs eC n nx draw ops.toList os i ⟨sl,mem,n0,gd⟩ .t ks=(⟨some d,.buildSlice t len parts,ty,pos,cJ,some (j,want)⟩::cG,i',⟨sl',mem',cd,gd'⟩,p,cp))(hj:wS ops.toList j=some tg)(hb:ao tg sl'=some (.c (.B b)))(vi:b=want){E:Nat}{ei:TI}(hv:BU eC ⟨sl',mem',cd,gd'⟩ t len parts.toList=some (E,ei,xs.flatMap (av T)))
  (hk:RG Tryz.prog n ops draw nx (i'+1) cG ⟨(d,.c (.S T xs))::sl',mem',cd,gd'⟩ (fp draw cp (.s tg::cH (Op.buildSlice t len parts).operands.toList,[.s d])) R) (hT:ei.size=T.n:=by rfl) (n7:xs.length=len:=by rfl) (tc:Nat.ble (len*T.n) 16777216=true:=by rfl)
  (hp:p:=by first|trivial| (simp only[Pr.an,Pr.h,num,aA,true_and,and_true];first|done|omega)| (simp[Pr.an,Pr.h,num,aA];done)| (simp[Pr.an,Pr.h,num,aA];omega)) (aV:Nat.blt d n=true:=by rfl):RG Tryz.prog n ops draw nx i os ⟨sl,mem,n0,gd⟩ ks R:=
 jE ar h hp (kT (λho=>Le ho ae hj hb vi (XU (ops:= #[⟨some d,.buildSlice t len parts,ty,pos,cJ,none⟩]) (i:=0) ae ae ae (cY aV) _ Wj (λ_ _ _ _ _ _ aJ bw=>QI ar aJ ae hT n7 (cY tc) hv bw))) (jD hk))
end
def ast:aG Tryz.prog 12 [cS aM [1,0,1],cU 5] (.t [(false,[.S MT [([2,1],1),([3,1],1)]]),(false,[.I .i64 0])]):=by
 have e1:a7 (md ((5:Nat):Int) [1,0,1])=[1,0,1]:=ak;have e2:l5 ((5:Nat):Int) [1,0,1]=[1,0,1]:=ak;have hF:yW 5 (Fx.fx [1,0,1]) (rh P5 3 [1,0,1] 1 []):=amt P5 Gg ak;have hB:=hF.bnd P5 Gg;have e3:Dk P5 [1,0,1]=rh P5 3 [1,0,1] 1 []:=by unfold Dk;rw[e1,e2];rfl
 have hS:yW 5 (Fx.fx [1,0,1]) (O0 P5 [1,0,1]):=by
  unfold O0;rw[e3];by_cases e:(rh P5 3 [1,0,1] 1 []).length=0
  ·rw[e];exact hF
  ·exact hF.perm (TS _ _ af)
 have hSl:(O0 P5 [1,0,1]).length=(Dk P5 [1,0,1]).length:=FE _ _;have h:=asi P5 ak [1,0,1] ak (λi=>(Gg.c.1 i).1) (by rw[e1];decide) (by rw[e1,e2];exact Gg) (by rw[e1,e2];decide) (by rw[e3];have:_+1≤3:=hB.1;omega) (λx hx=>by rw[e3]at hx;have:x.1.length≤3:=(hB.2 x hx).2.2.1;omega);rwa[asr hS λt ht=>asp hS.ds af]at h
def asu:aG Tryz.prog 29 [cS .z [1,0,1],cS (.sl aM) [[2,1],[3,1]],cU 5,cI 2] (.t [(false,[.S (.sl .z) [[7,1],[-7,1]]]),(false,[.I .i64 0])]):=by have h:=aob ass;have e:AW 5 [1,0,1] (λi=>([[2,1],[3,1]]:List (List Int)).getD i []) ([[2,1],[3,1]]:List (List Int)).length 2=[[7,1],[-7,1]]:=ak;rwa[e]at h
def V7{b:List Int}(lb:b.length≤1000)(hb:∀x∈b,0≤x∧x<4294967296)(ht:a7 b=b):aG Tryz.prog 40 [cS aM b] (cS .z b):=by
 have h:=ans b lb λi=>by
  rw[aU];by_cases h:i<b.length
  ·rw[cr h];exact hb _ (k6 h)
  ·rw[nn af];decide
 rwa[ht]at h
def V8{l:List Int}{a:List Rat}(hl:∀x∈l,-128≤x∧x≤127)(h:hJ l 4=a):aG Tryz.prog 17 [cS I8 l,cI 4] (cS .q a):=h▸RQ l 4 ak hl
def V9(k:Rat){u:List Rat}(h:[k*k+1,-(k+k),1]=u):u.getD (u.length-1) 0=1∧Rx.cj (Rx.lx u):=by subst h;exact⟨ae,asc k⟩
def asv{fs:List (List Rat×Int)}(H:mq [4,0,0,0,1] fs):fs=[([2,-2,1],1),([2,2,1],1)]:=by
 obtain⟨u1,u2⟩:=V9 1 (u:=[2,-2,1]) wu;obtain⟨v1,v2⟩:=V9 (-1) (u:=[2,2,1]) wu;have hc:Rx.cO [4,0,0,0,1]:=Or.inr Pk;have hm:Rx.lx [4,0,0,0,1]=Rx.lx [2,-2,1]*Rx.lx [2,2,1]:=by have h:=OX [2,-2,1] [2,2,1] 3 (bD _);have e:jH [2,-2,1] [2,2,1] 3=[4,0,0,0,1]:=wu;rw[e]at h;exact h
 have e0:Rx.lx (c9 [4,0,0,0,1])=Rx.lx [4,0,0,0,1]:=V2 ae;have mu:=V0 H u1 u2 (by rw[e0,hm];exact Rx.dvd_mul_right _ _);have mv:=V0 H v1 v2 (by rw[e0,hm];exact Rx.dvd_mul_left _ _);have hw:jk fs+1=5:=(H.wt hc).resolve_right ak;have hb:=λx(hx:x∈fs)=>H.Dj hx
 have J7:=H.adj;generalize jS [2,-2,1] fs=n at mu;generalize jS [2,2,1] fs=m at mv;have bn:1≤n:=(hb _ mu).2;have bm:1≤m:=(hb _ mv).2;have lu:∀(k:Int) l,jk ((([2,-2,1]:List Rat),k)::l)=k.toNat*2+jk l:=λk l=>rfl
 have lv:∀(k:Int) l,jk ((([2,2,1]:List Rat),k)::l)=k.toNat*2+jk l:=λk l=>rfl
 obtain⟨s,t,rfl⟩:=Bi mu;rcases b6.1 mv with h|h
 ·exfalso;obtain⟨s1,s2,rfl⟩:=Bi h;have w1:=zi (l:=s1) λx hx=>hb x kZ
  have w2:=zi (l:=s2) λx hx=>hb x kZ
  have w3:=zi (l:=t) λx hx=>hb x kZ
  rw[zh,zh,lu,lv]at hw;have e1:s1=[]:=iu af;have e2:s2=[]:=iu af;have e3:t=[]:=iu af;subst e1 e2 e3;have h1:0≤nS [2,-2,1] [2,2,1]:=J7 0 (Nat.zero_lt_one);exact absurd h1 wu
 ·rcases dC.1 h with h|h
  ·exact absurd (ay (λx:List Rat×Int=>x.1.getD 1 0) h) (by show¬(2:Rat)= -2;decide)
  ·obtain⟨s1,s2,rfl⟩:=Bi h;have w1:=zi (l:=s1) λx hx=>hb x kZ
   have w2:=zi (l:=s2) λx hx=>hb x kZ
   have w3:=zi (l:=s) λx hx=>hb x kZ
   rw[zh,lu,zh,lv]at hw;have e1:s1=[]:=iu af;have e2:s2=[]:=iu af;have e3:s=[]:=iu af;have e4:n=1:=af;have e5:m=1:=af;subst e1 e2 e3 e4 e5;rfl
def asw{R:List Rat}(h:∀r,r∈R↔tK [-2,1,1] r 3=0)(hd:R.Nodup)(hs:∀t,t+1<R.length→R.getD t 0<R.getD (t+1) 0):R=[-2,1]:=by
 have h:∀r,r∈R↔r= -2∨r=1:=λr=>by
  rw[h r];show((0*r+1)*r+1)*r+ -2=0↔_;constructor
  ·intro e;have e:(r- -2)*(r-1)=0:=by grind
   rcases DJ.1 e with e|e
   ·left;grind
   ·right;grind
  ·rintro(rfl|rfl)<;>decide+kernel
 have m1:=(h (-2)).2 (.inl ae);have m2:=(h 1).2 (.inr ae);have hl:=agt hd (m:=[-2,1]) λx hx=>by rcases(h x).1 hx with rfl|rfl<;>simp
 match R,hl with
 |[],_=>cases m1
 |[x],_=>
  have e1:=jJ.1 m1
  rw[←e1]at m2
  exact absurd (jJ.1 m2) ak
 |[x,y],_=>
  have br:x<y:=hs 0 (fT 1)
  rcases(h x).1 be with rfl|rfl<;>rcases(h y).1 be with rfl|rfl
  ·exact absurd br ak
  ·rfl
  ·exact absurd br ak
  ·exact absurd br ak
 |_::_::_::_,b=>exact absurd b be
def agL{k:Nat}(a:Rat)(h:QS k a)(hk:k≤100000):aG Tryz.prog 20 [aQ a,aQ a] (cB true):=by have:=agb (k:=k) a a h af;rwa[oK ae]at this
set_option maxRecDepth 100000 in
set_option maxHeartbeats 16000000 in
def asx:aG Tryz.prog 9 [] (cB true):=by
 have a4:hJ [4,0,0,0,1] 4=[4,0,0,0,1]:=wu;have a2:hJ [-2,1,1] 4=[-2,1,1]:=wu;have a1:hJ [1,0,1] 4=[1,0,1]:=wu;have f4:=J9 (l:=[4,0,0,0,1]) (most:=4) ak (by rw[a4];decide);have f2:=J9 (l:=[-2,1,1]) (most:=4) ak (by rw[a2];decide);have f1:=J9 (l:=[1,0,1]) (most:=4) ak (by rw[a1];decide);rw[a4]at f4;rw[a2]at f2;rw[a1]at f1;obtain⟨fs,w1,_,_,w4⟩:=OZ f4;rw[asv w1]at w4;obtain⟨R,r1,r2,_,r4,_,_,r7⟩:=ash f2.can λ_=>f2
 have hR:R=[-2,1]:=asw (λr=>(r2 f2.ne r).trans (agv _ r).symm) r7 r4;rw[hR]at r1;obtain⟨i1,i2⟩:=V9 0 (u:=[1,0,1]) wu;have hi:=agF f1 i1 i2;have hQ:QS 1 (-2:Rat):=⟨aW.one ak,aW.one ak⟩;have vB:=agL (k:=1) (-2) hQ ak;have hW:=EM (-2) ak ak;have F7:=ZQ [2,1] [2,1] ak;have sk:=ZQ [3,1] [3,1] ak;have tB:=V7 (b:=[1,0,1]) ak ak ak;have hI2:=V7 (b:=[7,1]) ak ak ak;have hI3:=V7 (b:=[1,2]) ak ak ak;have h71:∀i,aW 1 (([7,1]:List Int).getD i 0):=λi=>match i with
  |0=>aW.one ak
  |1=>aW.one ak
  |i+2=>aW.one (a:=0) ak
 have hsi:=ant [7,1] [7,1] ak (λi=>(h71 i).sm ak);have yb:=ab8 [1,2] 1 ak ak (λi=>match i with
  |0=>aW.one ak
  |1=>aW.one ak
  |i+2=>aW.one (a:=0) ak)
 have FU:=Ch 6 ak ak;have B8:=acL 6 6 ((aW.one (a:=6) ak).sm ak);have Lc:=V8 (l:=[4,0,0,0,1]) ak a4;have nw:=V8 (l:=[-2,1,1]) ak a2;have tW:=V8 (l:=[1,0,1]) ak a1;have hn:=ase.a1 (au.nil .q);refine aX Tryz.func9 ae ae ae ae ae ak ?_;refine rr ae (rb (rl aM [1,0,1] ae ae (rc ae ae ast (re ae (aj ?_)))));refine rb (rg 14 ae ae (λh=>by cases h) (λ_=>rg 19 ae ae (λh=>by cases h) (λ_=>rg 26 ae ae (λh=>by cases h) (λ_=>?_))));refine Ka aM [2,1] ae ae ae ae ae (fj ae ae ae ae ae F7 (rg 35 ae ae (λh=>by cases h) (λ_=>?_)));refine Ka aM [3,1] ae ae ae ae ae (fj ae ae ae ae ae sk (re ae (ax ae (λh=>by cases h) (λ_=>aC (ai ?_)))));refine rb (rl aM [1,0,1] ae ae (rc ae ae tB (rl aM [2,1] ae ae (rl aM [3,1] ae ae (rl (.sl aM) [[2,1],[3,1]] ae ae (rc ae ae asu (re ae (aj ?_))))))));refine rb (rg 55 ae ae (λh=>by cases h) (λ_=>rg 60 ae ae (λh=>by cases h) (λ_=>?_)));refine Ka aM [7,1] ae ae ae ae ae (fj ae ae ae ae ae hI2 (fj ae ae ae ae ae hsi (re ae (ax ae (λh=>by cases h) (λ_=>aC (ai ?_))))));refine rb (rl I8 [4,0,0,0,1] ae ae (rc ae ae Lc (rc ae ae w4 (re ae (aj ?_)))));refine rb (rg 75 ae ae (λh=>by cases h) (λ_=>rg 81 ae ae (λh=>by cases h) (λ_=>rg 90 ae ae (λh=>by cases h) (λ_=>?_))));refine fj ae ae ae ae ae hW (fj ae ae ae ae ae vB (re ae (ax ae (λh=>by cases h) (λ_=>aC (ai ?_)))));refine rb (rl I8 [-2,1,1] ae ae (rc ae ae nw (rc ae ae r1 (re ae ?_))));refine rb (rg 108 ae ae (λ_=>?_) (λh=>by cases h))
 refine fj ae ae ae ae ae hW (fj ae ae ae ae ae vB (rg 115 ae ae (λ_=>?_) (λh=>by cases h)));refine Ka aM [1,2] ae ae ae ae ae (fj ae ae ae ae ae hI3 (fj ae ae ae ae ae yb (fj ae ae ae ae ae FU (fj ae ae ae ae ae B8 (rg 122 ae ae (λ_=>?_) (λh=>by cases h))))));refine Ka I8 [1,0,1] ae ae ae ae ae (fj ae ae ae ae ae tW (fj ae ae ae ae ae hi (rg 127 ae ae (λ_=>?_) (λh=>by cases h))));exact fj ae ae ae ae ae hn (re ae (aF (aL ar ae (au.refl _))))
def asC(a b:Rat):dz (a.num*(b.den:Int)) (b.num*(a.den:Int))=fQ a b:=by
 have h1:=KO a b;have h2:=KO b a;unfold dz fQ;by_cases c1:a<b
 ·rw[aw c1,aw (h1.1 c1)]
 ·rw[aq c1,aq (λh=>c1 (h1.2 h))];by_cases c2:b<a
  ·rw[aw c2];first|rw[aw (h2.1 c2)]|rw[aq (by have:=h2.1 c2;omega)]
  ·rw[aq c2];first|rw[aq (λh=>c2 (h2.2 h))]|rw[aw (by have:=mt h2.2 c2;have:=mt h1.2 c1;omega)]
def O2{k:Nat}(hk:k≤100000)(a b:List Rat)(la:a.length≤1000)(ha:∀i,QS k (a.getD i 0)):aG Tryz.prog 49 [cS .q a,cS .q b] (cB (decide (a=b))):=by
 refine aX Tryz.func49 ae ae ae ae ae ak ?_;refine rr ae (aj (rr ae (ax ae (λh=>?_) (λh=>aC (ai ?_)))))
 ·have h:=oU h;refine rr ae (aF (bS (aL ar ae (au.of_eq (ay cB ?_)))));rw[kC (λe=>h qh)]
 ·have h:=oV h;have hl:a.length=b.length:=af;refine aj (rr ae (aH (bA (α:=Nat) (λi=>⟨[(0,cS .q a),(1,cS .q b),(5,cI i)],[],4,[]⟩) (λi=>i≤a.length∧∀j,j<i→a.getD j 0=b.getD j 0) (λi=>a.length-i) 0 ⟨bK _,λj hj=>absurd hj (zA _)⟩ bY ?_)));rintro i ⟨hi,ht⟩;refine aj (rr ae (ax ae (λh2=>?_) (λh2=>?_)))
  ·have h2:i<a.length:=by have h2:(i:Int)<(a.length:Int):=a9 h2;omega
   have ei:((i:Int)).toNat=i:=bu i;have hs:aG Tryz.prog 20 [aQ (a.getD ((i:Int)).toNat 0),aQ (b.getD ((i:Int)).toNat 0)] (cB (decide (a.getD i 0=b.getD i 0))):=by rw[ei];exact agb _ _ (ha i) af
   refine aC (ai (aj (aH (rb (rc ae ae hs (re ae (ax ae (λh3=>?_) (λh3=>aC (a6 (ai ?_))))) (hp:=aN))))))
   ·have h3:a.getD i 0≠b.getD i 0:=λe=>by have h3:(!decide (a.getD i 0=b.getD i 0))=true:=h3;rw[oK e]at h3;cases h3
    refine rr ae (aF ?_);repeat(first|refine bS ?_|refine fq ?_|refine gU ?_)
    refine aL ar ae (au.of_eq (ay cB ?_));rw[kC (λe=>h3 qh)]
   ·have h3:a.getD i 0=b.getD i 0:=by
     have h3:(!decide (a.getD i 0=b.getD i 0))=false:=h3;by_cases e:a.getD i 0=b.getD i 0
     ·exact e
     ·rw[kC e]at h3;cases h3
    refine rt ae (a8 (i+1) ⟨h2,λj hj=>?_⟩ oF bY);by_cases e:j=i
    ·rw[e];exact h3
    ·exact ht j af
  ·have h2:i=a.length:=by have h2:¬(i:Int)<(a.length:Int):=bC h2;omega
   subst h2;refine bh (bt (bq (bp (ai (rr ae (aF (aL ar ae (au.of_eq (ay cB ?_)))))))));refine(oK (Rx.T4 hl λj=>?_)).symm;by_cases c:j<a.length
   ·exact ht j c
   ·rw[Rx.kY a af,Rx.kY b af]
def asD{k:Nat}(hk:k≤100000)(a:List Rat)(l1:a.length≤1000)(hc:a.getD (a.length-1) 0≠0)(ha:∀i,QS k (a.getD i 0))(h0:a≠[]):aG Tryz.prog 45 [cS .q a] (cB true):=by
 refine aX Tryz.func45 ae ae ae ae ae ak ?_;have la:=cZ.2 h0;refine rr ae (aj (rr ae ?_));refine aH (bA (α:=Nat) (λi=>⟨[(0,cS .q a),(3,cI i)],[],4,[]⟩) (λi=>i≤a.length) (λi=>a.length-i) 0 (bK _) bY ?_);intro i hi;refine aj (rr ae (ax ae (λh2=>?_) (λh2=>?_)))
 ·have h2:i<a.length:=by have h2:(i:Int)<(a.length:Int):=a9 h2;omega
  have hv:=arT (k:=k) (a.getD ((i:Int)).toNat 0) (ha _) af;refine aC (ai (aj (aH (rb (rc ae ae hv (re ae (ax ae (λh3=>by cases h3) (λh3=>aC (a6 (ai ?_))))) (hp:=aN))))));exact rt ae (a8 (i+1) h2 oF bY)
 ·refine bh (bt (bq (bp (ai ?_))));have ei:((a.length:Int)-1).toNat=a.length-1:=af;have hS:=HV (a.getD ((a.length:Int)-1).toNat 0);refine rb (rg 19 ae ae (λh=>?_) (λ_=>fj ae ae ae ae ae hS (re ae (aF (aL ar ae (au.of_eq (ay cB ?_))))) (hp:=aN)))
  ·exfalso;have h:((a.length:Int)==0)=true:=h;have:=eq_of_beq h;omega
  ·show(cN (a.getD ((a.length:Int)-1).toNat 0).num !=0)=true;rw[ei];exact bne_iff_ne.2 λe=>hc (C5 (uD.1 e))
def asE{k:Nat}(hk:k≤100000)(a b:List Rat)(la:a.length≤1000)(lb:b.length≤1000)(ha:∀i,QS k (a.getD i 0))(hb:∀i,QS k (b.getD i 0)):aG Tryz.prog 48 [cS .q a,cS .q b] (cB (decide (nS a b<0))):=by
 refine aX Tryz.func48 ae ae ae ae ae ak ?_;refine rr ae (aj (rr ae (ax ae (λh=>?_) (λh=>aC (ai ?_)))))
 ·have h:=oU h;refine rr ae (aF (bS (aL ar ae (au.of_eq (ay cB ?_)))));rw[nS,aw af,kX];refine decide_eq_decide.2 ⟨λe=>by rw[aw e];decide,λe=>?_⟩;split at e
  ·assumption
  ·split at e<;>omega
 ·have h:(a.length:Int)=(b.length:Int):=oV h;rw[show nS a b=qf a b a.length by rw[nS,aq af]];refine aj (rr ae ?_);refine aH (bA (α:=Nat) (λk=>⟨[(0,cS .q a),(1,cS .q b),(5,cI ((k:Int)-1))],[],4,[]⟩) (λk=>k≤a.length∧qf a b a.length=qf a b k) (λk=>k) a.length ⟨bD _,ae⟩ bY ?_);rintro i ⟨hi,hc⟩;refine aj (rr ae (ax ae (λh2=>?_) (λh2=>?_)))
  ·have h2:0<i:=by have h2:(i:Int)-1≥0:=a9 h2;omega
   obtain⟨j,rfl⟩:∃j,i=j+1:=⟨i-1,by omega⟩;have e2:(((j+1:Nat):Int)-1).toNat=j:=af;have hq:aG Tryz.prog 55 [aQ (a.getD (((j+1:Nat):Int)-1).toNat 0),aQ (b.getD (((j+1:Nat):Int)-1).toNat 0)] (cI (fQ (a.getD j 0) (b.getD j 0))):=by rw[e2,←asC];exact arS (k:=k) _ _ (ha _) (hb _) af
   rw[qf]at hc;rw[hc];generalize fQ (a.getD j 0) (b.getD j 0)=z at*;refine aC (ai (aj (aH (rb (rc ae ae hq (re ae (ax ae (λh3=>?_) (λh3=>aC (a6 (ai ?_))))) (hp:=aN))))))
   ·have h3:z≠0:=bne_iff_ne.1 h3;refine rb (rc ae ae hq (re ae (aF ?_)) (hp:=aN));repeat(first|refine bS ?_|refine fq ?_|refine gU ?_)
    refine aL ar ae (au.of_eq ?_);rw[aw h3]
   ·have h3:z=0:=by
     have h3:(z !=0)=false:=h3;by_cases e:z=0
     ·exact e
     ·rw[bne_iff_ne.2 e]at h3;cases h3
    refine rt ae (hp:=aN) (a8 j ⟨by omega,?_⟩ po (wk ⟨sR ae,sR ae,sE ae ?_,ah⟩ ah))
    ·exact aq (λe=>e h3)
    ·exact ay (λz=>AV.c (C.I .i64 z)) (show((j+1:Nat):Int)-1-1=(j:Int)-1 by omega)
  ·have h2:i=0:=by have h2:¬(i:Int)-1≥0:=bC h2;omega
   subst h2;rw[hc];exact bh (bt (bq (bp (ai (rr ae (aF (aL ar ae (au.refl _))))))))
def agM(fs:List (List Rat×Int))(l1:fs.length≤1000)(p:List Rat)(hf:∀x∈fs,wm 20 x):aG Tryz.prog 47 [cS UT fs,cS .q p] (cI (jS p fs)):=by
 refine aX Tryz.func47 ae ae ae ae ae ak ?_;refine rr ae (aj (rr ae ?_));refine aH (bA (α:=Nat) (λi=>⟨[(0,cS UT fs),(1,cS .q p),(5,cI i)],[],4,[]⟩) (λi=>i≤fs.length∧jS p fs=jS p (fs.drop i)) (λi=>fs.length-i) 0 ⟨bK _,ae⟩ bY ?_);rintro i ⟨hi,ho⟩;refine aj (rr ae (ax ae (λh2=>?_) (λh2=>?_)))
 ·have h2:i<fs.length:=by have h2:(i:Int)<(fs.length:Int):=a9 h2;omega
  have ei:((i:Int)).toNat=i:=bu i;have n8:(fs.getD ((i:Int)).toNat (ET.eR UT))=fs.getD i bQ:=ay (λz=>fs.getD z bQ) ei;have hx:=hf (fs.getD i bQ) Wx;have hd:fs.drop i=fs.getD i bQ::fs.drop (i+1):=by rw[oH h2,aU,cr h2];rfl
  rw[hd,jS]at ho;have hs:=O2 (k:=20) ak (fs.getD i bQ).1 p hx.l hx.q;rw[←n8]at hs ho;refine aC (ai (aj (aH (rb (rc ae ae hs (re ae (ax ae (λh3=>?_) (λh3=>aC (a6 (ai ?_))))) (hp:=aN))))))
  ·have h3:(fs.getD ((i:Int)).toNat (ET.eR UT)).1=p:=a9 h3;rw[aw h3]at ho;refine rr ae (aF ?_) (hp:=aN);repeat(first|refine bS ?_|refine fq ?_|refine gU ?_)
   exact aL ar ae (au.of_eq (ay cI ho.symm))
  ·have h3:¬(fs.getD ((i:Int)).toNat (ET.eR UT)).1=p:=bC h3;rw[aq h3]at ho;exact rt ae (a8 (i+1) ⟨h2,ho⟩ Pj bY)
 ·have h2:i=fs.length:=by have h2:¬(i:Int)<(fs.length:Int):=bC h2;omega
  subst h2;rw[GI,jS]at ho;refine bh (bt (bq (bp (ai (rr ae (aF (aL ar ae (au.of_eq ?_))))))));rw[ho];rfl
def oE(P o:List Rat):Nat→List Rat
 |0=>o
 |k+1=>jH (oE P o k) P (oE P o k).length
def pn(c:Rat)(fs:List (List Rat×Int)):List Rat:=fs.foldl (λo x=>oE x.1 o x.2.toNat) [c]
def asF(c:Rat){fs:List (List Rat×Int)}{i:Nat}(h:i<fs.length):pn c (fs.take (i+1))=oE (fs.getD i bQ).1 (pn c (fs.take i)) (fs.getD i bQ).2.toNat:=by
 have wj:fs.take (i+1)=fs.take i++[fs.getD i bQ]:=by rw[uV,aU,cr h];rfl
 rw[wj,pn,List.foldl_append];rfl
set_option maxRecDepth 100000 in
set_option maxHeartbeats 8000000 in
def asG(c:Rat)(fs:List (List Rat×Int))(l1:fs.length≤1000)(e:Int)(hn:∀x∈fs,x.2≤12∧x.1.length≤100∧∀i,QS 40 (x.1.getD i 0))(hq:∀i k,i<fs.length→k<(fs.getD i bQ).2.toNat→(oE (fs.getD i bQ).1 (pn c (fs.take i)) k).length≤12∧∀j,QS 40 ((oE (fs.getD i bQ).1 (pn c (fs.take i)) k).getD j 0)):aG Tryz.prog 50 [.a (av .q c++[.S UT fs,.I .i64 e])] (cS .q (pn c fs)):=by
 refine aX Tryz.func50 ae ae ae ae ae ak ?_;refine rr ae (rb (rl .q [c] ae ae (re ae (aj (rr ae ?_)))));refine aH (bA (α:=Nat) (λi=>⟨[(1,.c (.P 0 0)),(3,cS .q (pn c (fs.take i))),(4,cI i)],[(0,.box 49 0 (av .q c++[.S UT fs,.I .i64 e]))],4,[]⟩) (λi=>i≤fs.length) (λi=>fs.length-i) 0 (bK _) bY ?_);intro i hi;refine aj (rr ae (ax ae (λh2=>?_) (λh2=>?_)))
 ·have h2:i<fs.length:=by have h2:(i:Int)<(fs.length:Int):=a9 h2;omega
  have ei:((i:Int)).toNat=i:=bu i;have n8:(fs.getD ((i:Int)).toNat (ET.eR UT))=fs.getD i bQ:=ay (λz=>fs.getD z bQ) ei;obtain⟨x1,x2,x3⟩:=hn (fs.getD i bQ) Wx;have hq:=hq i;have hsu:=asF c h2;refine aC (ai (aj (aH (rr ae ?_))));refine aH (bA (α:=Nat) (λk=>⟨[(1,.c (.P 0 0)),(3,cS .q (oE (fs.getD i bQ).1 (pn c (fs.take i)) k)),(4,cI i),(5,cI k)],[(0,.box 49 0 (av .q c++[.S UT fs,.I .i64 e]))],8,[]⟩) (λk=>k≤(fs.getD i bQ).2.toNat) (λk=>(fs.getD i bQ).2.toNat-k) 0 (bK _) bY ?_);intro k hk;rw[←n8]at*;refine aj (rb (rg 24 ae ae (λh3=>?_) (λh3=>?_) (hp:=aN)))
  ·have h3:(k:Int)<(fs.getD ((i:Int)).toNat (ET.eR UT)).2:=a9 h3;have h4:k<(fs.getD ((i:Int)).toNat (ET.eR UT)).2.toNat:=af;obtain⟨q1,q2⟩:=hq k h2 h4;have hm:=ago (k:=40) ak (oE (fs.getD ((i:Int)).toNat (ET.eR UT)).1 (pn c (fs.take i)) k) (fs.getD ((i:Int)).toNat (ET.eR UT)).1 q1 x2 q2 x3;refine re ae (ax ae (λ_=>aC (ai ?_)) (λh5=>?_))
   ·refine aj (aH (cK (rc ae ae hm (re ae (a6 (ai (rt ae (hp:=aN) (a8 (k+1) h4 (by show(fs.getD ((i:Int)).toNat (ET.eR UT)).2.toNat-(k+1)<(fs.getD ((i:Int)).toNat (ET.eR UT)).2.toNat-k;omega) bY))))) (hp:=aN))))
   ·exfalso;have h5:¬(k:Int)<13:=bC h5;omega
  ·have h3:¬(k:Int)<(fs.getD ((i:Int)).toNat (ET.eR UT)).2:=bC h3;have h4:k=(fs.getD ((i:Int)).toNat (ET.eR UT)).2.toNat:=af;refine re ae (ax ae (λh5=>by cases h5) (λ_=>?_));refine bh (bt (bq (bp (a6 (ai (rt ae (hp:=aN) (a8 (i+1) h2 Pj (wk ⟨sR ae,sE ae ?_,sR ae,ah⟩ ⟨bR ae,ah⟩))))))));rw[hsu,h4]
 ·have h2:i=fs.length:=by have h2:¬(i:Int)<(fs.length:Int):=bC h2;omega
  subst h2;rw[iK];exact bh (bt (bq (bp (ai (rr ae (aF (aL ar ae (au.refl _))))))))
end Go.El
namespace Go.El
open Go Go.Proofs Rx
def asI{z p:List Rat}(hc:cO z)(h0:z≠[])(l9:z.length≤9){c:Nat}(h1:c≤2^11)(h2:CD c (2^11) (lx (c9 z)))(hp:p.getD (p.length-1) 0=1)(hd:lx p∣lx (c9 z)):ku p:=by
 obtain⟨pc,pm⟩:=uO hp;have hm:=A9 hc h0;have hs:sz (lx (c9 z))=z.length:=by rw[dK (uN z),JT hc]
 have hl:p.length≤z.length:=by have:=j3 hd hm.ne;rwa[dK pc,hs]at this
 have p0:p≠[]:=λe=>by rw[e]at hp;exact absurd hp ak
 obtain⟨d,_,d2,d3⟩:=h2.div hm pm hd;rw[hs]at d3;have e1:2^(z.length-1)≤2^8:=jV ak af;have e2:z.length*2^11≤9*2^11:=eJ _ l9;have e3:=my e1 e2;have d4:CD d (2^23) (lx p):=d3.le (dF e3 ak);have d5:d≤2^11:=dF (rE h2.1 d2) h1;have Dj:=@Rx.JU 1500;refine⟨pc,p0,by omega,d4.ht (dF d5 (Dj ak)) (Dj ak),⟨d,11,23,by rw[V2 hp];exact d4,d5,by decide,by omega⟩⟩
def asJ{l m:List Int}(h0:hJ l 4≠[])(k0:hJ m 4≠[]):∃z,z=jH (hJ l 4) (hJ m 4) (hJ l 4).length∧lx z=lx (hJ l 4)*lx (hJ m 4)∧cO z∧z≠[]∧z.length+1=(hJ l 4).length+(hJ m 4).length∧∀i,∃y:Int,y.natAbs≤2^11∧((9:Nat):Rat)*z.getD i 0=(y:Rat):=by
 have ha:=VY l 4;have hb:=VY m 4;have la:=(Gd l 4).1;have ca:=VZ l 4;have cb:=VZ m 4;generalize hJ l 4=a at*;generalize hJ m 4=b at*;have e:lx (jH a b a.length)=lx a*lx b:=by rw[OX a _ _ (bD _),iw,uY]
 have JM:=agk a b a.length;have hs:=eH (Df ca h0) (Df cb k0);rw[←e,dK JM,dK ca,dK cb]at hs;have pa:=cZ.2 h0;have pb:=cZ.2 k0;refine⟨_,ae,e,JM,λe0=>by rw[e0,mr]at hs;omega,hs,λi=>?_⟩;have hg:(jH a b a.length).getD i 0=sq (λj=>a.getD j 0*b.getD (i-j) 0) (i+1):=ay (λA:Rx=>A i) e;rw[hg];have key:∀n,∃y:Int,y.natAbs≤(if n≤5 then n else 5)*324∧((9:Nat):Rat)*sq (λj=>a.getD j 0*b.getD (i-j) 0) n=(y:Rat):=by
  intro n;induction n with
  |zero=>exact⟨0,by decide,by rw[sq];exact jA _⟩
  |succ n ih=>
   obtain⟨y,y1,y2⟩:=ih
   obtain⟨u,u1,u2⟩:=ha n
   obtain⟨v,v1,v2⟩:=hb (i-n)
   by_cases c:n<5
   ·refine⟨y+u*v,?_,?_⟩
    ·have h1:(u*v).natAbs≤18*18:=by rw[uZ];exact my u1 v1
     rw[aw af]at y1;rw[aw af];omega
    ·rw[sq,Rat.intCast_add,jz,←y2,←u2,←v2];grind
   ·have hz:a.getD n 0=0:=kY a af;refine⟨y,?_,?_⟩
    ·have e5:(if n≤5 then n else 5)=5:=by split<;>omega
     rw[e5]at y1;rw[aq af];exact y1
    ·rw[sq,←y2,hz,u6,rF]
 obtain⟨y,y1,y2⟩:=key (i+1);exact⟨y,by split at y1<;>omega,y2⟩
def Wa(P o:List Rat):∀k,lx (oE P o k)=lx o*pk (lx P) k
 |0=>(mul_one _).symm
 |k+1=>by rw[oE,OX _ _ _ (bD _),iw,uY,Wa P o k,pk,mul_assoc]
def agN{o:List Rat}(h:cO o)(P:List Rat):∀k,cO (oE P o k)
 |0=>h
 |k+1=>agk _ _ _
def Wb:∀(fs:List (List Rat×Int))(o:List Rat),lx (fs.foldl (λo x=>oE x.1 o x.2.toNat) o)=lx o*eO fs
 |[],o=>(mul_one _).symm
 |x::fs,o=>by rw[KE,Wb fs,Wa,eO,mul_assoc]
def Wc:∀(fs:List (List Rat×Int)){o:List Rat},cO o→cO (fs.foldl (λo x=>oE x.1 o x.2.toNat) o)
 |[],_,h=>h
 |x::fs,_,h=>by rw[KE];exact Wc fs (agN h _ _)
def agO:∀{l:List (List Rat×Int)},(∀x∈l,x.1.getD (x.1.length-1) 0=1)→Mo (eO l)
 |[],_=>T7
 |x::l,h=>by rw[eO];exact((uO (h x be)).2.pk _).mul (agO λy hy=>h y oG)
section
variable{a:List Rat}{fs:List (List Rat×Int)}
def agP{c:Rat}(hc:c≠0):cO [c]:=Or.inr hc
def asK(h:ku a)(H:mq a fs){c:Rat}(hc:c≠0)(JX:QS 5 c){i k:Nat}(hi:i<fs.length)(hk:k≤(fs.getD i bQ).2.toNat):(oE (fs.getD i bQ).1 (pn c (fs.take i)) k).length≤9∧∀j,QS 40 ((oE (fs.getD i bQ).1 (pn c (fs.take i)) k).getD j 0):=by
 have oi:fs=fs.take i++fs.getD i bQ::fs.drop (i+1):=by
  conv=>lhs;rw[←xP i fs]
  rw[oH hi,aU,cr hi];rfl
 have iA:fs.getD i bQ∈fs:=by rw[aU,cr hi];exact k6 hi
 have jF:eO (fs.take i)*pk (lx (fs.getD i bQ).1) k∣lx (c9 a):=by
  rw[←H.prod];conv=>rhs;rw[oi]
  rw[VO,eO];obtain⟨j,hj⟩:∃j,(fs.getD i bQ).2.toNat=k+j:=⟨_,(Nat.add_sub_cancel' hk).symm⟩;rw[hj,tn];exact⟨pk (lx (fs.getD i bQ).1) j*eO (fs.drop (i+1)),by ac_rfl⟩
 have FX:Mo (eO (fs.take i)*pk (lx (fs.getD i bQ).1) k):=(agO λx hx=>(H.ok x (Kx hx)).1).mul ((uO (H.ok _ iA).1).2.pk k);have n7:lx (oE (fs.getD i bQ).1 (pn c (fs.take i)) k)=K c*(eO (fs.take i)*pk (lx (fs.getD i bQ).1) k):=by rw[Wa,pn,Wb,Nq,mul_assoc]
 have asL:cO (oE (fs.getD i bQ).1 (pn c (fs.take i)) k):=agN (Wc _ (agP hc)) _ _;have cR:=j3 jF h.mo.ne;have hq:=h.qs FX jF;rw[h.Gb]at cR;have sk:=eH (tq hc) FX.ne;rw[ts hc,←n7,dK asL]at sk;have l9:=h.l9;refine⟨by omega,λj=>?_⟩;have e:(oE (fs.getD i bQ).1 (pn c (fs.take i)) k).getD j 0=c*(eO (fs.take i)*pk (lx (fs.getD i bQ).1) k) j:=by rw[←iE,←n7];rfl
 rw[e];exact(JX.le ak).mul (hq j)
def asM(h:ku a)(H:mq a fs):pn (a.getD (a.length-1) 0) fs=a:=by have hc:=h.can.ne h.ne;refine Jb (Wc _ (agP hc)) h.can ?_;rw[pn,Wb,H.prod,Nq,Dg h.ne,←mul_assoc,←gw,Rat.mul_inv_cancel _ hc,l7,one_mul]
def Wd(h:ku a)(H:mq a fs)(h8:fs.length≤8)(JX:QS 5 (a.getD (a.length-1) 0)):aG Tryz.prog 50 [.a (av .q (a.getD (a.length-1) 0)++[.S UT fs,.I .i64 0])] (cS .q a):=by
 have hw:=(H.wt h.can).resolve_right h.ne;have l9:=h.l9;have hn:∀x∈fs,x.2≤12∧x.1.length≤100∧∀i,QS 40 (x.1.getD i 0):=λx hx=>by
  obtain⟨s,t,e⟩:=Bi hx;obtain⟨b1,b2⟩:=H.Dj hx;have xu:=hw;rw[e,zh,jk]at xu;have h1:=my (show 1≤x.2.toNat by omega) (bD (x.1.length-1));have h2:=my (bD x.2.toNat) (show 1≤x.1.length-1 by omega);have hd:lx x.1∣lx (c9 a):=by rw[←H.prod];exact J3 hx b2
  exact⟨by omega,by omega,λi=>(h.qs (uO (H.ok x hx).1).2 hd i).le ak⟩
 have:=asG (a.getD (a.length-1) 0) fs af 0 hn λi k hi hk=>by obtain⟨t1,t2⟩:=asK h H (h.can.ne h.ne) JX hi (KG hk);exact⟨by omega,t2⟩
 rwa[asM h H]at this
end
def asN{a b:Rat}(h:fQ a b=0):a=b:=by
 unfold fQ at h;split at h
 ·cases h
 ·rename_i h1;split at h
  ·cases h
  ·rename_i h2;exact Rat.le_antisymm (Rat.not_lt.1 h2) (Rat.not_lt.1 h1)
def agQ{a b:List Rat}:∀k,qf a b k=0→∀i,i<k→a.getD i 0=b.getD i 0
 |0,_,i,hi=>absurd hi (zA _)
 |k+1,h,i,hi=>by
  rw[qf]at h;by_cases c:fQ (a.getD k 0) (b.getD k 0)=0
  ·rw[aq (λe=>e c)]at h;by_cases e:i=k
   ·rw[e];exact asN c
   ·exact agQ k h i af
  ·rw[aw c]at h;exact absurd h c
def asO{a b:List Rat}(h:nS a b=0):a=b:=by
 unfold nS at h;by_cases c:a.length=b.length
 ·rw[aq (λe=>e c)]at h;refine Rx.T4 c λj=>?_
  by_cases hj:j<a.length
  ·exact agQ _ h j hj
  ·rw[Rx.kY a af,Rx.kY b af]
 ·rw[aw c]at h;have:=V4 h;omega
def mq.lt{a:List Rat}{fs:List (List Rat×Int)}(H:mq a fs){t:Nat}(ht:t+1<fs.length):nS (fs.getD t bQ).1 (fs.getD (t+1) bQ).1<0:=by
 have h1:=H.adj t af;have h1:0≤nS (fs.getD (t+1) bQ).1 (fs.getD t bQ).1:=h1;rw[af0]at h1;have h2:(fs.getD t bQ).1≠(fs.getD (t+1) bQ).1:=by have:=Kq.1 H.so t (t+1) af ht af;rw[aU,cr af,aU,cr ht];exact this
 have h3:nS (fs.getD t bQ).1 (fs.getD (t+1) bQ).1≠0:=λe=>h2 (asO e)
 omega
def asP{fs:List (List Rat×Int)}{i:Nat}(h:i<fs.length):jk (fs.take (i+1))=jk (fs.take i)+(fs.getD i bQ).2.toNat*((fs.getD i bQ).1.length-1):=by
 have wj:fs.take (i+1)=fs.take i++[fs.getD i bQ]:=by rw[uV,aU,cr h];rfl
 rw[wj,zh];rfl
def asQ{fs:List (List Rat×Int)}{i:Nat}:jk (fs.take i)≤jk fs:=by
 conv=>rhs;rw[←xP i fs]
 rw[zh];omega
set_option maxRecDepth 100000 in
set_option maxHeartbeats 16000000 in
def asR(l m:List Int)(hl:∀x∈l,-128≤x∧x≤127)(hm:∀x∈m,-128≤x∧x≤127):aG Tryz.prog 6 [cS I8 l,cS I8 m] (cB true):=by
 refine aX Tryz.func6 ae ae ae ae ae ak ?_;have pu:=RQ l 4 ak hl;have pv:=RQ m 4 ak hm;refine rr ae (rb (rc ae ae asx (re ae (aj (rr ae (ax ae (λh=>by cases h) (λ_=>aC (ai ?_))))))));refine rb (rc ae ae pu (rc ae ae pv (re ae (aj ?_))));have la:=(Gd l 4).1;have lb:=(Gd m 4).1;have Fa:=λh=>J9 (l:=l) (most:=4) ak h
 have Fb:=λh=>J9 (l:=m) (most:=4) ak h
 have qa:=agy l 4;have qb:=agy m 4;have hz:=λh k=>asJ (l:=l) (m:=m) h k
 generalize hJ l 4=a at*;generalize hJ m 4=b at*;have dY:∀{x:List Rat},(((x.length:Nat):Int)==0)=true→x=[]:=λ{x} h=>iu (by have:=eq_of_beq h;omega)
 have agR:∀{x:List Rat},(((x.length:Nat):Int)==0)=false→x≠[]:=λ{x} h e=>by subst e;cases h
 refine rb (rg 24 ae ae (λh1=>?_) (λh1=>?_))
 ·refine re ae (ax ae (λ_=>?_) (λh=>by cases h));exact rb (rc ae ae (agE.a1 (au.nil .q)) (rg 32 ae ae (λ_=>re ae (aF (bS (aL ar ae (au.refl _))))) (λh=>by cases h)))
 refine re ae (ax ae (λh2=>?_) (λh2=>aC (ai ?_)))
 ·exact rb (rc ae ae (agE.a1 (au.nil .q)) (rg 32 ae ae (λ_=>re ae (aF (bS (aL ar ae (au.refl _))))) (λh=>by cases h)))
 have a0:=agR h1;have b0:=agR h2;have Fa:=Fa a0;have Fb:=Fb b0;obtain⟨z,ez,zl,zc,z0,zn,zq⟩:=hz a0 b0;have We:=ago (k:=1) ak a b af af qa qb;rw[←ez]at We;have Fz:ku z:=agx zc z0 af (D:=9) ak ak λi=>by obtain⟨y,y1,y2⟩:=zq i;exact⟨y,dF y1 ak,y2⟩
 obtain⟨c,c1,c2⟩:=agw zc z0 (D:=9) ak zq;have zht:Ht (2^11) (lx z):=⟨((9:Nat):Int),by decide,by decide,λi=>zq i⟩;have zqs:QS 5 (z.getD (z.length-1) 0):=zht.qs (ry ak) (z.length-1);obtain⟨fa,A1,A2,A3,A4⟩:=OZ Fa;obtain⟨fb,B1,B2,B3,B4⟩:=OZ Fb;obtain⟨fz,Z1,Z2,Z3,Z4⟩:=OZ Fz;have ta:=Wd Fa A1 A2 ((qa _).le ak);have tb:=Wd Fb B1 B2 ((qb _).le ak);have tz:=Wd Fz Z1 Z2 zqs;have sa:=O2 (k:=1) ak a a af qa;have sb:=O2 (k:=1) ak b b af qb;have sz':=O2 (k:=5) ak z z af (λi=>zht.qs (ry ak) i);rw[oK ae]at sa sb sz';have pN:=ar8 Fa.can Fb.can zc a0 b0 z0 zl;have wz:jk fz+1=z.length:=(Z1.wt zc).resolve_right z0;generalize a.getD (a.length-1) 0=ca at*;generalize b.getD (b.length-1) 0=cb at*;generalize z.getD (z.length-1) 0=cz at*;refine rb (rc ae ae A4 (rc ae ae B4 (rc ae ae We (rc ae ae Z4 (re ae (aj ?_))))));refine rb (rg 46 ae ae (λh=>by cases h) (λ_=>rg 51 ae ae (λh=>by cases h) (λ_=>rg 56 ae ae (λh=>by cases h) (λ_=>re ae (ax ae (λh=>?_) (λ_=>aC (ai ?_)))))))
 ·exfalso;have h:((fz.length:Nat):Int)>8:=a9 h;omega
 refine rr ae (aj (rr ae ?_));refine aH (bA (α:=Nat) (λi=>⟨[(5,cB true),(6,cS .q a),(7,cS .q b),(8,.c (.P 5008000 0)),(9,.c (.P 5009000 0)),(10,.c (.P 5010000 0)),(11,cI (jk (fz.take i))),(12,cI i)],[(5008000,.box 49 0 (av .q ca++[.S UT fa,.I .i64 0])),(5009000,.box 49 0 (av .q cb++[.S UT fb,.I .i64 0])),(5010000,.box 49 0 (av .q cz++[.S UT fz,.I .i64 0]))],12,[]⟩) (λi=>i≤fz.length) (λi=>fz.length-i) 0 (bK _) bY ?_);intro i hi;refine aj (rr ae (ax ae (λh2=>?_) (λh2=>?_)))
 ·have h2:i<fz.length:=by have h2:(i:Int)<(fz.length:Int):=a9 h2;omega
  have ei:((i:Int)).toNat=i:=bu i;have n8:(fz.getD ((i:Int)).toNat (ET.eR UT))=fz.getD i bQ:=ay (λz=>fz.getD z bQ) ei;have iA:fz.getD i bQ∈fz:=Wx;have hx:=Z3 _ iA;obtain⟨x1,x2,x3⟩:=Z1.ok _ iA;obtain⟨x4,_⟩:=Z1.Dj iA;have OJ:=asP h2;have xu:=asQ (fs:=fz) (i:=i+1);have hoc:=ar9 A1 B1 Z1 pN x1 x2;rw[agA Z1.so iA]at hoc;have jF:lx (fz.getD i bQ).1∣lx (c9 z):=by rw[←Z1.prod];exact J3 iA x3
  have Fp:=asI zc z0 af c1 c2 x1 jF;have dJ:=agF Fp x1 x2;have Ce:=asD (k:=20) ak (fz.getD i bQ).1 hx.l (by rw[x1];decide) hx.q Fp.ne;have o1:=agM fa af (fz.getD i bQ).1 A3;have o2:=agM fb af (fz.getD i bQ).1 B3;have br:i≠0→nS (fz.getD (i-1) bQ).1 (fz.getD i bQ).1<0:=λh=>by have:=Z1.lt (t:=i-1) af;rwa[show i-1+1=i by omega]at this
  have g9:i≠0→aG Tryz.prog 48 [cS .q (fz.getD (i-1) bQ).1,cS .q (fz.getD i bQ).1] (cB true):=λh=>by
   have Oq:fz.getD (i-1) bQ∈fz:=by rw[aU,cr af];exact k6 _
   have lT:=Z3 _ Oq;have:=asE (k:=20) ak (fz.getD (i-1) bQ).1 (fz.getD i bQ).1 lT.l hx.l lT.q hx.q;rwa[oK (br h)]at this
  have nn1:=Ge (u:=(fz.getD i bQ).1) λx hx=>(A1.ok x hx).2.2
  have nn2:=Ge (u:=(fz.getD i bQ).1) λx hx=>(B1.ok x hx).2.2
  have vB:=agL (k:=1) (1:Rat) ⟨aW.one ak,aW.one ak⟩ ak;have hW:=EM 1 ak ak;have l9:=Fp.l9;generalize jS (fz.getD i bQ).1 fa=oa at*;generalize jS (fz.getD i bQ).1 fb=ob at*;have hN:(fz.getD i bQ).2≤12:=by have h1:=my (bD (fz.getD i bQ).2.toNat) (show 1≤(fz.getD i bQ).1.length-1 by omega);omega
  have asT:(fz.getD ((i:Int)-1).toNat (ET.eR UT))=fz.getD (i-1) bQ:=ay (λk=>fz.getD k bQ) (show((i:Int)-1).toNat=i-1 by omega);rw[←n8]at*;rw[←asT]at g9;have asU:aG Tryz.prog 20 [aQ ((fz.getD ((i:Int)).toNat (ET.eR UT)).1.getD (((fz.getD ((i:Int)).toNat (ET.eR UT)).1.length:Int)-1).toNat 0),aQ 1] (cB true):=by rw[show(((fz.getD ((i:Int)).toNat (ET.eR UT)).1.length:Int)-1).toNat=(fz.getD ((i:Int)).toNat (ET.eR UT)).1.length-1 by omega,x1];exact vB
  refine aC (ai (aj (aH (rr ae (aj ?_) (hp:=aN)))));refine rb (rg 78 ae ae (λh=>absurd (a9 h) af) (λ_=>?_));refine fj ae ae ae ae ae Ce (rg 83 ae ae (λh=>by cases h) (λ_=>?_));refine fj ae ae ae ae ae hW (fj ae ae ae ae ae asU (rg 94 ae ae (λh=>by cases h) (λ_=>?_)) (hp:=aN)) (hp:=aN);refine fj ae ae ae ae ae dJ (rg 99 ae ae (λh=>by cases h) (λ_=>?_));refine fj ae ae ae ae ae o1 (fj ae ae ae ae ae o2 (rg 117 ae ae (λh=>?_) (λ_=>?_) (hp:=aN)) (hp:=aN)) (hp:=aN)
  ·exfalso;have h:((fz.getD ((i:Int)).toNat (ET.eR UT)).2 !=oa+ob)=true:=h;exact(bne_iff_ne.1 h) hoc
  have hn:((jk (fz.take i):Nat):Int)+(fz.getD ((i:Int)).toNat (ET.eR UT)).2*(((fz.getD ((i:Int)).toNat (ET.eR UT)).1.length:Int)-1)=((jk (fz.take (i+1)):Nat):Int)∧0≤(fz.getD ((i:Int)).toNat (ET.eR UT)).2*(((fz.getD ((i:Int)).toNat (ET.eR UT)).1.length:Int)-1)∧jk (fz.take (i+1))≤1000:=by rw[OJ];obtain⟨n,hn⟩:∃n:Nat,(fz.getD ((i:Int)).toNat (ET.eR UT)).2=(n:Int):=⟨_,(DD af).symm⟩;obtain⟨k,hk⟩:∃k:Nat,(fz.getD ((i:Int)).toNat (ET.eR UT)).1.length=k+1:=⟨_,(Nat.succ_pred_eq_of_pos af).symm⟩;have e:(((k+1:Nat):Int)-1)=(k:Int):=af;rw[hn,hk,bu,iY,e,xV,gi];rw[OJ,hn,hk,bu,iY]at xu;exact⟨ae,jX af af,by omega⟩
  obtain⟨Ii,EY,hn3⟩:=hn;refine rg 120 ae ae (λh=>?_) (λh=>?_)
  ·have BA:(i:Int)>0:=a9 h;refine fj ae ae ae ae ae (g9 af) ?_ (hp:=aN);exact re ae (ax ae (λh=>by cases h) (λ_=>aC (ai (rt ae (hp:=aN) (a6 (ai (rt ae (hp:=aN) (a8 (i+1) h2 (by show fz.length-(i+1)<fz.length-i;omega) (wk ⟨sR ae,sR ae,sR ae,sR ae,sR ae,sR ae,⟨_,ae,au.of_eq (ay cI Ii)⟩,sR ae,ah⟩ ⟨bR ae,bR ae,bR ae,ah⟩)))))))))
  ·exact re ae (ax ae (λh=>by cases h) (λ_=>aC (ai (rt ae (hp:=aN) (a6 (ai (rt ae (hp:=aN) (a8 (i+1) h2 (by show fz.length-(i+1)<fz.length-i;omega) (wk ⟨sR ae,sR ae,sR ae,sR ae,sR ae,sR ae,⟨_,ae,au.of_eq (ay cI Ii)⟩,sR ae,ah⟩ ⟨bR ae,bR ae,bR ae,ah⟩)))))))))
 ·have h2:i=fz.length:=by have h2:¬(i:Int)<(fz.length:Int):=bC h2;omega
  subst h2;rw[iK];refine bh (bt (bq (bp (ai ?_))));refine rb (rg 153 ae ae (λ_=>?_) (λh=>?_) (hp:=aN))
  ·refine fj ae ae ae ae ae ta (fj ae ae ae ae ae sa (rg 159 ae ae (λ_=>?_) (λh=>by cases h)));refine fj ae ae ae ae ae tb (fj ae ae ae ae ae sb (rg 165 ae ae (λ_=>?_) (λh=>by cases h)));refine fj ae ae ae ae ae tz (fj ae ae ae ae ae We (fj ae ae ae ae ae sz' (rg 173 ae ae (λ_=>?_) (λh=>by cases h))));exact re ae (aF (aL ar ae (au.refl _)))
  ·exfalso;have h:(((jk fz:Nat):Int)==(a.length:Int)+(b.length:Int)-2)=false:=h;rw[beq_eq_false_iff_ne]at h;omega
end Go.El
