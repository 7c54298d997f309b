/- Contract: a round of the search for factors. Own work; no condition. -/
import Derived.Test.YtkkccchkmcjcpaaGreatU12
import Derived.Test.YtkkccchkmcjcpaaGreatU8
import Derived.Test.YtkkccchkmcjcpaaGreatU7
import Derived.Test.YtkkccchkmcjcpaaGreatU11
import Derived.Test.YtkkccchkmcjcpaaGreatU9
import Derived.Test.YtkkccchkmcjcpaaGreatU10
set_option linter.defProp false
set_option linter.unusedVariables false
set_option linter.unusedSimpArgs false
set_option linter.unnecessarySimpa false
namespace Go.El
open Go Go.Proofs
def aeC(x i:Nat)(hx:x<256)(hi:i<64):(IntKind.wrap .u64 ((BitVec.ofInt (IntKind.bits .u64) ((x:Int).fdiv (2^(min ((i:Int)).toNat (IntKind.bits .u64))))&&& BitVec.ofInt (IntKind.bits .u64) 1).toNat:Int)==1)=x.testBit i:=by
 have e1:min ((i:Int)).toNat (IntKind.bits .u64)=i:=by rw[bu];show min i 64=i;omega
 have e2:(x:Int).fdiv (2^i)=((x/2^i:Nat):Int):=by
  have e3:(2:Int)^i=((2^i:Nat):Int):=by rw[uX];rfl
  rw[e3,Dt _ (nU _)];rfl
 rw[e1,e2];have hy:x/2^i≤x:=DI _ _;rw[Nat.testBit_eq_decide_div_mod_eq];generalize x/2^i=y at*;have e4:(BitVec.ofInt (IntKind.bits .u64) ((y:Nat):Int)&&& BitVec.ofInt (IntKind.bits .u64) 1).toNat=y%2:=by
  rw[BitVec.toNat_and];have a1:(BitVec.ofInt (IntKind.bits .u64) ((y:Nat):Int)).toNat=y:=by rw[BitVec.toNat_ofInt];show(((y:Nat):Int)%((2^64:Nat):Int)).toNat=_;omega
  have a2:(BitVec.ofInt (IntKind.bits .u64) 1).toNat=1:=rfl;rw[a1,a2,Nat.and_one_is_mod]
 rw[e4,wrap_u64 _ (nU _) af];by_cases h:y%2=1
 ·rw[h];rfl
 ·have:y%2=0:=by omega
  rw[this];rfl
def aeD(b:Nat→Bool)(l:List (List Int)){j:Nat}(h:j<l.length):bL b 0 (l.take (j+1))=bL b 0 (l.take j)++(if b j then[l.getD j []]else[]):=by rw[Kk h,adA,eZ,fI,tN af,bL,bL];rw[aU,cr h];rfl
structure zb(a:List Int)(l:List (List Int))(m:Int)(w:Nat):Prop where
 am:bT a
 la:a.length≤100
 ln:l.length≤8
 lm:∀f∈l,bT f∧f.length≤100
 hm:1<m
 w1:w≤40000
 w0:1≤w
 mB:aW w m
 aB:∀i,aW w (a.getD i 0)
 lB:∀f∈l,∀i,aW w (f.getD i 0)
def zb.tm{a:List Int}{l:List (List Int)}{m:Int}{w:Nat}(h:zb a l m w)(b:Nat→Bool)(j:Nat):bT (jG m [1] (bL b 0 (l.take j)))∧(jG m [1] (bL b 0 (l.take j))).length≤900∧∀i,aW w ((jG m [1] (bL b 0 (l.take j))).getD i 0):=by
 have eL:∀f∈bL b 0 (l.take j),f∈l:=λf hf=>Kx (xF hf)
 obtain⟨h1,h2⟩:=AZ h.hm C1 (λf hf=>(h.lm f (eL f hf)).1:∀f∈bL b 0 (l.take j),bT f);refine⟨h1,?_,?_⟩
 ·have key:∀L:List (List Int),(∀f∈L,f.length≤100)→iW L≤99*L.length:=by
   intro L;induction L with
   |nil=>intro _;exact bK _
   |cons f L ih=>
    intro hL
    have:=ih λx hx=>hL x kZ
    have:=hL f be
    rw[iW,fv];omega
  have h3:=key _ λf hf=>(h.lm f (eL f hf)).2
  have h4:(bL b 0 (l.take j)).length≤l.length:=by
   have Vi:∀(L:List (List Int))(i:Nat),(bL b i L).length≤L.length:=by
    intro L;induction L with
    |nil=>intro i;exact bD _
    |cons f L ih=>
     intro i
     have:=ih (i+1)
     rw[bL]
     split
     ·simp;omega
     ·simp;omega
   exact dF (Vi _ _) zt
  have:=h.ln;rw[h2];show 1+_≤_;omega
 ·have key:∀(L:List (List Int))(g:List Int),(∀i,aW w (g.getD i 0))→∀i,aW w ((jG m g L).getD i 0):=by
   intro L;induction L with
   |nil=>intro g hg;exact hg
   |cons f L ih=>
    intro g _
    exact ih _ λi=>by obtain⟨r1,r2⟩:=Up g f (show 0<m by have:=h.hm;omega) i;exact aW.lt r1 r2 h.mB
  refine key _ _ λi=>?_
  match i with
  |0=>exact(aW.one (a:=1) ak).le h.w0
  |i+1=>exact aW.zero _
def aeE{n:Nat}{e:Exit}{st:St}{bo:Bool}{xid:Nat}{Mo:List (Nat×aK)}(he:e=if bo then .normal else .exit xid)(fe:1≤st.nx)(hm:st.mem=Mo):gM n e st xH (JJ bo xid Mo):=by intro F hF gV ds g W a hh hO;have JP:ds=[]:=hO;subst JP;refine⟨he,g,st.nx,fe,?_⟩;obtain⟨sl,mem,nx,gd⟩:=st;simp only at hm fe;subst hm;exact bJ.frame (F:=F.dr []) (n':=(F.dr []).n) (ds':=[]) (rd':=(F.dr []).rd) hh hh.size hh.defers (λt v hv=>by simp[ao]at hv) (λid b hb=>hb)
def F6:Code→Option (Code×Code)
 | .rangeFunc _ _ x y=>some (x,y)
 | .seq x y=>match F6 x with
  |some z=>some z
  |none=>F6 y
 | .block _ x=>F6 x
 | .loop x=>F6 x
 | .scope x=>F6 x
 |_=>none
def rfC(c:Option Code):Option (Code×Code):=match c with
 |some c=>F6 c
 |none=>none
open Classical in
noncomputable def sA(a:List Int)(l:List (List Int))(m:Int)(S:Nat):Bool:=decide (Rx.zx (gS m l S.testBit)∣Rx.zx a)
open Classical in
def aqj{a:List Int}{l:List (List Int)}{m:Int}{S:Nat}(h:Rx.zx (gS m l S.testBit)∣Rx.zx a):sA a l m S=true:=oK h
open Classical in
def aqk{a:List Int}{l:List (List Int)}{m:Int}{S:Nat}(h:¬Rx.zx (gS m l S.testBit)∣Rx.zx a):sA a l m S=false:=kC h
noncomputable abbrev mF(n:Nat)(a:List Int)(l:List (List Int))(m:Int)(fd:List (List Int))(S:Nat):List (Nat×aK):=mC n (rj a (gS m l S.testBit)) (bL (λi=> !S.testBit i) 0 l) m (fd++[gS m l S.testBit])
set_option maxRecDepth 100000 in
set_option maxHeartbeats 16000000 in
def aql{a:List Int}{l:List (List Int)}{m:Int}{w:Nat}(h:zb a l m w){fd:List (List Int)}(BC:fd.length≤1000){x:Nat}(hx:x<256){iX bd:Code}(yb:rfC Tryz.f257.body=some (iX,bd)):
  TJ Tryz.prog 75 bd ⟨[(8,cU x),(3,.c (.P 1000000 0)),(4,.c (.P 1001000 0)),(5,.c (.P 1002000 0)),(7,.c (.P 2000000 0))],oC::mC l.length a l m fd,31,[]⟩ xH (JJ (!sA a l m x) 1 (oC::if sA a l m x then mF l.length a l m fd x else mC l.length a l m fd)):=by
 obtain⟨ea,eb⟩:=Prod.mk.inj (GJ ((rfl:rfC Tryz.f257.body=some (_,_)).symm.trans yb))
 subst ea eb
 clear yb
 have hO:=aee
 have hln:=h.ln
 have ju:0<m:=by have:=h.hm;omega
 refine uL (Dc hO (rc ae ae (oT 1 ak ak) (yr .z [1] ae ae (re ae (kr hO ae (rq (kr hO ae (uL (JH (α:=Nat) (λj=>⟨[(3,.c (.P 1000000 0)),(4,.c (.P 1001000 0)),(5,.c (.P 1002000 0)),(7,.c (.P 2000000 0)),(8,cU x),(9,.c (.X 31001000)),(10,.c (.X 34000000)),(22,cS (.sl .z) l),(23,cI l.length),(24,cI j)],(34000000,.vec 57 (.sl .z) (bL (λi=> !x.testBit i) 0 (l.take j)))::(31001000,.vec 44 .z (jG m [1] (bL x.testBit 0 (l.take j))))::oC::mC l.length a l m fd,35,[]⟩) (λj=>j≤l.length) (λj=>l.length-j) 0 (bK _) ?_ ?_)))))))))
 ·exact tv 34000000 57 (.sl .z) ⟨.inl (sR ae),.inl (sR ae),.inl (sR ae),.inl (sR ae),.inl (sR ae),.inl (sR ae),.inr ⟨ae,ae⟩,.inl (sR ae),.inl (sR ae),.inl (sR ae),ah⟩ ⟨bR ae,bR ae,bR ae,bR ae,bR ae,bR ae,bR ae,bR ae,ah⟩ ae (eQ.of ae)
 intro j hj
 refine kr hO ae (rq (xG ae (λh1=>?_) (λh1=>?_)))
 ·have h1:j<l.length:=by have h1:(j:Int)<(l.length:Int):=a9 h1;omega
  have hfm:l.getD j []∈l:=Pg;obtain⟨t1,t2,t3⟩:=h.tm x.testBit j;have Vj:=h.lm _ hfm;have ej:((j:Int)).toNat=j:=bu j;have F7:=aeD x.testBit l h1;have sk:bL (λi=> !x.testBit i) 0 (l.take (j+1))=bL (λi=> !x.testBit i) 0 (l.take j)++(if(!x.testBit j)=true then[l.getD j []]else[]):=aeD (λi=> !x.testBit i) l h1;refine C' (oA (rq (uL (kr hO ae (kr hO ae (xG ae (λh2=>?_) (λh2=>?_)))))))
  ·have h2:x.testBit j=true:=by rw[←aeC x j hx af];exact h2
   have hmul:m9 Tryz.prog 161 [cS .z (jG m [1] (bL x.testBit 0 (l.take j))),cS .z (l.getD ((j:Int)).toNat []),aZ m] 44 .z (pY (jG m [1] (bL x.testBit 0 (l.take j))) (l.getD j []) m):=by rw[ej];exact ap3 _ _ m w w (by have:=h.w1;omega) af af t1.1 Vj.1.1 ju t3 (h.lB _ hfm) (h.mB.le af)
   refine Da (oP 31001000 ae) (Vg hO (w9 ae ae hmul (re ae (A7 (oA (kt hO ae (Db (j+1) h1 Wp (Wk.trans (wk (st':=⟨[(3,.c (.P 1000000 0)),(4,.c (.P 1001000 0)),(5,.c (.P 1002000 0)),(7,.c (.P 2000000 0)),(8,cU x),(9,.c (.X 38003000)),(10,.c (.X 34000000)),(22,cS (.sl .z) l),(23,cI l.length),(24,cI (j+1:Nat))],[(34000000,.vec 57 (.sl .z) (bL (λi=> !x.testBit i) 0 (l.take (j+1)))),(38003000,.vec 44 .z (jG m [1] (bL x.testBit 0 (l.take (j+1))))),oC,(4002000,.box 3 0 [.I .i64 l.length]),(1000000,.box 57 0 [.S .z a]),(1001000,.box 61 0 [.S (.sl .z) l]),(1002000,.box 44 0 (av .z m)),(2000000,.box 61 0 [.X 3000000]),(3000000,.vec 57 (.sl .z) fd)],41,[]⟩) ⟨sR ae,sR ae,sR ae,sR ae,sR ae,sR ae,sR ae,sR ae,sR ae,sR ae,ah⟩ ⟨bE ae ?_,bE ae ?_,bR ae,bR ae,bR ae,bR ae,bR ae,bR ae,bR ae,ah⟩) (Wk.trans (qI 31001000 38003000 ae ae ae) bY)))))))))
   ·rw[sk,h2];simp;rfl
   ·rw[F7,h2,aw ae,adB];rfl
  ·have h2:x.testBit j=false:=by rw[←aeC x j hx af];exact h2
   have Lr:(bL (λi=> !x.testBit i) 0 (l.take j)).length≤8:=by
    have Vi:∀(L:List (List Int))(i:Nat),(bL (λi=> !x.testBit i) i L).length≤L.length:=by
     intro L;induction L with
     |nil=>intro i;exact bD _
     |cons f L ih=>
      intro i
      have:=ih (i+1)
      rw[bL]
      split
      ·simp;omega
      ·simp;omega
    exact dF (Vi _ _) zt
   refine Vg hO (rl (.sl .z) [l.getD ((j:Int)).toNat []] ae ae (ra ae ae ae ae ae ae ae ae ae ?_ ?_ (re ae (A7 (oA (kt hO ae (Db (j+1) h1 Wp (Wk.trans (wk (st':=⟨[(3,.c (.P 1000000 0)),(4,.c (.P 1001000 0)),(5,.c (.P 1002000 0)),(7,.c (.P 2000000 0)),(8,cU x),(9,.c (.X 31001000)),(10,.c (.X 38003000)),(22,cS (.sl .z) l),(23,cI l.length),(24,cI (j+1:Nat))],[(38003000,.vec 57 (.sl .z) (bL (λi=> !x.testBit i) 0 (l.take (j+1)))),(31001000,.vec 44 .z (jG m [1] (bL x.testBit 0 (l.take (j+1))))),oC,(4002000,.box 3 0 [.I .i64 l.length]),(1000000,.box 57 0 [.S .z a]),(1001000,.box 61 0 [.S (.sl .z) l]),(1002000,.box 44 0 (av .z m)),(2000000,.box 61 0 [.X 3000000]),(3000000,.vec 57 (.sl .z) fd)],41,[]⟩) ⟨sR ae,sR ae,sR ae,sR ae,sR ae,sR ae,sR ae,sR ae,sR ae,sR ae,ah⟩ ⟨bE ae ?_,bE ae ?_,bR ae,bR ae,bR ae,bR ae,bR ae,bR ae,bR ae,ah⟩) (Wk.trans (qI 34000000 38003000 ae ae ae) bY)))))))))
   ·show((bL (λi=> !x.testBit i) 0 (l.take j)).length+1+((bL (λi=> !x.testBit i) 0 (l.take j)).length+1)/4+192)*24≤_;omega
   ·show((bL (λi=> !x.testBit i) 0 (l.take j)).length+1)*1≤_;omega
   ·rw[sk,h2,ej];rfl
   ·rw[F7,h2];simp
 ·have h1:j=l.length:=by have h1:¬(j:Int)<(l.length:Int):=bC h1;omega
  subst h1;obtain⟨t1,t2,t3⟩:=h.tm x.testBit l.length;rw[iK]at t1 t2 t3⊢;have qM:(jG m [1] (bL x.testBit 0 l)).map (ft · m)=gS m l x.testBit:=rfl;generalize jG m [1] (bL x.testBit 0 l)=G at*;generalize aqm:bL (λi=> !x.testBit i) 0 l=y5 at*;refine JE (JF (Og (JG (oA ?_))));refine rq (kr hO ae (uL (JH (α:=Nat) (λi=>⟨[(3,.c (.P 1000000 0)),(4,.c (.P 1001000 0)),(5,.c (.P 1002000 0)),(7,.c (.P 2000000 0)),(9,.c (.X 31001000)),(10,.c (.X 34000000)),(44,cI G.length),(45,cI i)],(34000000,.vec 57 (.sl .z) y5)::(31001000,.vec 44 .z (tE G m i))::oC::mC l.length a l m fd,37,[]⟩) (λi=>i≤G.length) (λi=>G.length-i) 0 (bK _) (wk ⟨sR ae,sR ae,sR ae,sR ae,sR ae,sR ae,sR ae,sR ae,ah⟩ ⟨bR ae,bE ae ?_,bR ae,bR ae,bR ae,bR ae,bR ae,bR ae,bR ae,ah⟩) ?_)))
  ·rw[ac6]
  intro i hi;refine kr hO ae (rq (xG ae (λh1=>?_) (λh1=>?_)))
  ·have h1:i<G.length:=by have h1:(i:Int)<(G.length:Int):=a9 h1;omega
   have hnl:=v5 G m i;have hg:(tE G m i).getD ((i:Int)).toNat 0=G.getD i 0:=by rw[bu,FW _ _ _ h1,aq af]
   have Uv:aG Tryz.prog 164 [aZ ((tE G m i).getD ((i:Int)).toNat 0),aZ m] (aZ (ft (G.getD i 0) m)):=by rw[hg];exact acM _ m w (by have:=h.w1;omega) ju ((t3 i).sm (by have:=h.w1;omega)) h.mB
   refine C' (oA (rq (uL (kr hO ae (Vg hO (rc ae ae Uv (hp:=aN) (lV (T:= .z) (ft (G.getD i 0) m) ae ae ae ae ae ?_ (re ae (A7 (oA (kt hO ae (Db (i+1) h1 (by show G.length-(i+1)<G.length-i;omega) (wk ⟨sR ae,sR ae,sR ae,sR ae,sR ae,sR ae,sR ae,sR ae,ah⟩ ⟨bR ae,bE ae ?_,bR ae,bR ae,bR ae,bR ae,bR ae,bR ae,bR ae,ah⟩)))))))))))))
   ·show((i:Int)).toNat<(tE G m i).length;rw[bu,hnl];exact h1
   ·refine ay (aK.vec 44 .z) ?_;rw[bu];exact ac7 G m i h1
  ·have h1:i=G.length:=by have h1:¬(i:Int)<(G.length:Int):=bC h1;omega
   subst h1;rw[ac8,qM];refine JE (JF (Og (JG (oA ?_))));have hgm:bT (gS m l x.testBit):=by rw[←qM];exact UD h.hm t1
   have jP:(gS m l x.testBit).length≤900:=by rw[←qM,dM];exact t2
   have hgB:∀i,aW w ((gS m l x.testBit).getD i 0):=λi=>by rw[←qM,C0 _ ju];exact acI ju h.mB
   have jF:=apb h.am hgm h.la af (by have:=h.w1;omega:w≤100000) (by have:=h.w1;omega:w≤100000) h.aB hgB;subst aqm;by_cases hd:Rx.zx (gS m l x.testBit)∣Rx.zx a
   ·rw[show sA a l m x=true from aqj hd];rw[ad4 hd]at jF;refine Da (oP 31001000 ae) (Dc hO (rc ae ae jF (re ae (kr hO ae (xG ae (λ_=>?_) (λh=>by cases h))))));refine Da (oP 34000000 ae) (Dc hO (rl (.sl .z) [gS m l x.testBit] ae ae (ra ae ae ae ae ae ae ae ae ae ?_ ?_ (Fg ar ae ae ae ae ae (Nat.lt_of_sub_eq_succ ae) (re ae (kr hO ae (JE (ad9 ?_))))))))
    ·show(fd.length+1+(fd.length+1)/4+192)*24≤_;omega
    ·show(fd.length+1)*1≤_;omega
    exact ad7 (st':=⟨[],oC::mF l.length a l m fd x,42,[]⟩) (xt (mw 3000000 40003000) ah ⟨bE ae ae,bE ae ae,bE ae ae,bE ae ae,bE ae ae,bE ae ae,bE ae ae,ah⟩ ae (Fv ae) (eQ.of ae)) (aeE ae (by show 1≤42;decide) ae)
   ·rw[show sA a l m x=false from aqk hd];rw[U2 hd]at jF;refine Da (oP 31001000 ae) (Dc hO (rc ae ae jF (re ae (kr hO ae (xG ae (λh=>by cases h) (λ_=>C' (A7 (ad7 (st':=⟨[],oC::mC l.length a l m fd,41,[]⟩) bY (aeE ae (by show 1≤41;decide) ae)))))))))
end Go.El
namespace Go.El
open Go
section
variable{P:Program}{tt:TT}
def aqq{n:Nat}{ops:Array Oper}{draw:Bool}{nx i d:Nat}{f:FuncId}{first caps:Array Operand}{ty:TypeId}{pos:String}{cJ:Array Edge}{os:List Oper}{sl:List (Nat×AV)}{mem:List (Nat×aK)}{n0:Nat}{gd:List (Nat×Bool)}{ks:List Ks}{Q:St→Prop}{fs cs:List (Bool×List C)}
  (hf:rS ⟨sl,mem,n0,gd⟩ first.toList=some fs) (hc:rS ⟨sl,mem,n0,gd⟩ caps.toList=some cs)
  (h:∀k,RG P n ops draw nx (i+1) os ⟨(d,.c (.X (1000000*nx+1000*i)))::sl,(1000000*nx+1000*i,.fW f fs cs)::mem,n0,gd⟩ (ks++[k]) Q) (aV:Nat.blt d n=true:=by rfl):
  RG P n ops draw nx i (⟨some d,.makeFunc (.func f) first caps,ty,pos,cJ,none⟩::os) ⟨sl,mem,n0,gd⟩ ks Q:=
 aex (k:=(_,_)) (λho=>(aiJ ho ae ae (cY aV) ae hf hc (1000000*nx+1000*i)).Xk ⟨bD _,by show _<1000000*nx+1000*(i+1);omega⟩) (λkx aS=>by
  obtain⟨x,_,h⟩:=jK.1 aS;exact gn _ x kx h) (by
   funext key;cases key with
   |s t=>
    by_cases e:d=t
    ·subst e;simp[St.kn,ao,dI,bc]
    ·simp[St.kn,ao,dI,bc,e]
   |m j=>
    by_cases e:1000000*nx+1000*i=j
    ·subst e;simp[St.kn,ao,dI,bc]
    ·simp[St.kn,ao,dI,bc,e]) (λ_ h=>h) (λ_ h=>h) (h _)
def aqr{fn:Func}{R R':Ending→World→Prop}(h:∀e w,R e w→R' e w){e:Exit}{a:Act}{w:World}(hq:bodyPost P fn R e a w):bodyPost P fn R' e a w:=by
 cases e with
 |normal=>obtain⟨h1,v,h2,h3⟩:=hq;exact⟨h1,v,h2,h _ _ h3⟩
 |ret=>obtain⟨h1,v,h2,h3⟩:=hq;exact⟨h1,v,h2,h _ _ h3⟩
 |panic c=>exact⟨hq.1,h _ _ hq.2⟩
 |outgrown=>exact h _ _ hq
 |_=>exact hq
def aeH(P:Program)(fn:Func)(r:AV)(fm:List (Nat×aK)):fG:=λF e a W=>bodyPost P fn (λe W'=>∃v g,e= .returned v∧bP g r v∧bJ F (λ_=>True) (St.kn ⟨[],fm,0,[]⟩) g W' {tmps:=Array.replicate F.n undef,defers:=[]}) e a W
def aqs(aT:cM P tt=true){n:Nat}{st:St}{fn:Func}{rs:List ResultVar}{r:AV}(hr:ua tt st rs=some r)(fM:fn.results=rs.toArray:=by rfl):gq n .ret st (aeH P fn r st.mem):=by intro F hF g W a h;obtain⟨u,hu,bW⟩:=BQ aT h fM hr;refine⟨h.defers.trans hF.ds,u,hu,u,g,ae,bW,by simp,hF.ds.symm,?_,λid b hb=>h.df id b hb,λid b9 b b' k h1 h2=>h.inj id b9 b b' k h1 h2,λ_ _ _ _ _=>trivial,λ_ _ _=>trivial,h.sub,h.below,h.le,h.fresh,λid al=>⟨ah,(h.iz id al).2⟩⟩;intro t v ht;simp[St.kn,ao]at ht
def aqt(ρ:Nat→Nat){n:Nat}{f:FuncId}{fn:Func}{c:Code}{vs:List AV}{k k':Nat}{r:AV}{fm0 fm:List (Nat×aK)}(hf:P.funcs[f]? =some fn)(hb:fn.body=some c)(hN:fn.ntmps=n)(hle:Nat.ble vs.length n=true)(mE:fN vs=[])(s8:(fn.name != "runtime.NumGoroutine")=true)
  (h:TR P n c ⟨ls 0 vs,[],0,[]⟩ (aeH P fn (Iy ρ r) fm0)) (oR:k≤k') (hri:∀id∈r.aD,k≤id∧id<k') (JQ:∀id b,ao id fm=some b→ao (ρ id) fm0=some (CA ρ b)∧(k≤id∧id<k')∧∀j∈b.aD,k≤j∧j<k')
  (IA:∀id b9,(ao id fm).isSome=true→(ao b9 fm).isSome=true→ρ id=ρ b9→id=b9):CX P f vs [] k r fm k':=by
 refine⟨by simp[mD,hf,hb,s8],oR,?_⟩
 intro F g W us hn g9 hh
 have aqu:jt g vs us:=apc vs us 0 us g9 (λj hj=>by simp) (λt v ht=>hh.gG t v (by simp[St.kn,ht]))
 have bW:jt ⟨g.H,jd⟩ vs us:=aqu.il mE
 refine calls_of_wp hf hb ?_
 have hle:=cY hle
 refine wp_mono (h {w0:=W,H0:=g.H,n:=n} ⟨ae,bK _,ae,ae⟩ ⟨g.H,jd⟩ W _ ⟨?_,ae,?_,?_,?_,?_,?_,hh.sub,⟨ae,ae,ae,bD _,λ_ _ _=>rfl⟩,cF.refl _,λ_ _ _ _=>rfl,λ_ h=>absurd h (zA _)⟩) (λe a W' hq=>?_)
 ·simp[hN];omega
 ·intro t v ht;simp only[St.kn,ct]at ht;obtain⟨x,hx,he⟩:=ht;cases he;obtain⟨_,u,hu,hr,_⟩:=pK vs us 0 bW t v hx;have jm:us[t]? =some u:=Ds;have br:t<us.length:=(wA.1 jm).1;have:(us.toArray++Array.replicate (fn.ntmps-us.toArray.size) undef).getD t undef=u:=by rw[wy,Bd Gn];simp[jm]
  rw[this];exact hr
 ·intro id b e;simp[St.kn,ao]at e
 ·intro id b9 b b' k e;simp[St.kn,ao]at e
 ·intro k x e id al;cases k with
  |m j=>simp[St.kn,ao]at e
  |s t=>
   simp only[St.kn,ct]at e
   obtain⟨y,hy,he⟩:=e
   subst he
   obtain⟨_,u,_,_,h6⟩:=pK vs us 0 bW t y hy
   have:=h6 id al
   rw[mE]at this
   cases this
 ·intro id x e;simp[St.kn,ao]at e
 refine aqr ?_ hq
 rintro e W' ⟨v,g1,rfl,hv,h1⟩
 let g2:Gh:=⟨g1.H,λid=>if id<k then g.γ id else g1.γ (ρ id)⟩
 have oO:iL (λid=>k≤id) ⟨g1.H,λid=>g1.γ (ρ id)⟩ g2:=⟨cF.refl _,λid al=>by show(if id<k then _ else _)=_;rw[aq af]⟩
 have hM:∀id b,(St.kn ⟨[(0,r)],fm,0,[]⟩) (.m id)=some (.b b)→ao id fm=some b:=λid b e=>by simp only[St.kn,ct]at e;obtain⟨x,hx,he⟩:=e;cases he;exact hx
 have hS:∀t u,(St.kn ⟨[(0,r)],fm,0,[]⟩) (.s t)=some (.v u)→t=0∧u=r:=λt u e=>by
  simp only[St.kn,ao,ct]at e;obtain⟨x,hx,he⟩:=e;cases he;split at hx
  ·rename_i e;cases hx;exact⟨e.symm,ae⟩
  ·cases hx
 have hB:∀id b,ao id fm=some b→jn F.N g2 W' id b:=λid b e=>by obtain⟨m1,m2,m3⟩:=JQ id b e;have hr:=h1.df (ρ id) (CA ρ b) (by simp[St.kn,m1]);have qu:=aal hr;have HA:=qu.step (known:=λid=>k≤id) (chg:=λ_=>False) (g':=g2) (W':=W') ⟨oO,λ_ _ _=>rfl,h1.sub,bD _,λ_ _ _=>rfl,ae,ae,ae⟩ m2.1 (λj hj=>(m3 j hj).1) (λ_ _ h=>h.elim);exact HA.Oc (λx _ _ _ _ hx=> .inl (dF hh.below.size (hx.resolve_right (λh=>h))))
 refine⟨v,g2,ae,ae,hh.defers,?_,λid b e=>hB id b (hM id b e),?_,?_,?_,h1.sub,?_,hh.le.trans h1.le,?_,?_⟩
 ·intro t u e;obtain⟨rfl,rfl⟩:=hS t u e;have:=bP.mono oO (λid al=>(hri id al).1) (aak hv);simpa[BX]using this
 ·intro id b9 b b' kk e e' hk dx;have e:=hM _ _ e;have e':=hM _ _ e';obtain⟨m1,m2,m3⟩:=JQ id b e;obtain⟨n1,n2,n3⟩:=JQ b9 b' e';refine IA id b9 (by rw[e];rfl) (by rw[e'];rfl) (h1.inj (ρ id) (ρ b9) _ _ kk (by simp[St.kn,m1];rfl) (by simp[St.kn,n1];rfl) ?_ ?_)
  ·have:=hk;simp only[g2,aq (show¬id<k by omega)]at this;exact this
  ·have:=dx;simp only[g2,aq (show¬b9<k by omega)]at this;exact this
 ·intro key x e id al;cases key with
  |s t=>
   cases x with
   |v u=>obtain⟨rfl,rfl⟩:=hS t u e;exact(hri id al).2
   |b b'=>simp only[St.kn,ct]at e;obtain⟨_,_,he⟩:=e;cases he
  |m j=>
   cases x with
   |v v'=>simp only[St.kn,ct]at e;obtain⟨_,_,he⟩:=e;cases he
   |b b'=>exact((JQ j b' (hM j b' e)).2.2 id al).2
 ·intro id x e;cases x with
  |v v'=>simp only[St.kn,ct]at e;obtain⟨_,_,he⟩:=e;cases he
  |b b'=>exact((JQ id b' (hM id b' e)).2.1).2
 ·exact⟨h1.below.os.trans hh.below.os,h1.below.tape.trans hh.below.tape,h1.below.output.trans hh.below.output,dF hh.below.size h1.below.size,λkk hk dY=>by rw[h1.below.block kk (kv hk hh.below.size) (λh=>h)];exact hh.below.block kk hk dY⟩
 ·intro b o hb dY;show g1.H b o=F.H0 b o;rw[h1.fresh b o (kv hb hh.below.size) (λh=>h)];exact hh.fresh b o hb dY
 ·intro id al;obtain⟨i1,i2⟩:=hh.iz id al;exact⟨kv i1 oR,by show(if id<k then _ else _)=_;rw[aw i1];exact i2⟩
end
end Go.El
namespace Go.El
open Go Go.Proofs
section
variable{n:Nat}{sl sl':List (Nat×AV)}{mem mem':List (Nat×aK)}{nx:Nat}{gd gd':List (Nat×Bool)}{ops:Array Oper}{draw:Bool}{p:Pr}{ks cp:List Ks}{i i' n0 cd:Nat}
variable{R:St→Prop}{os:List Oper}{d f:Nat}{ty:TypeId}{pos:String}{cJ:Array Edge}{cG:List Oper}
def aqv{first caps:Array Operand}{fs cs:List (Bool×List C)}(h:runs eC n nx draw ops.toList os i ⟨sl,mem,n0,gd⟩ .t ks=(⟨some d,.makeFunc (.func f) first caps,ty,pos,cJ,none⟩::cG,i',⟨sl',mem',cd,gd'⟩,p,cp))(hf:rS ⟨sl',mem',cd,gd'⟩ first.toList=some fs)(hc:rS ⟨sl',mem',cd,gd'⟩ caps.toList=some cs)
  (hk:∀k,RG Tryz.prog n ops draw nx (i'+1) cG ⟨(d,.c (.X (1000000*nx+1000*i')))::sl',(1000000*nx+1000*i',.fW f fs cs)::mem',cd,gd'⟩ (cp++[k]) R)
  (hp:p:=by first|trivial| (simp only[Pr.an,Pr.h,num,aA,true_and,and_true];first|done|omega)) (aV:Nat.blt d n=true:=by rfl):RG Tryz.prog n ops draw nx i os ⟨sl,mem,n0,gd⟩ ks R:=
 jE ar h hp (aqq hf hc hk aV)
end
def aqw(n:Int):CX Tryz.prog 281 [cI n] [] 4002000 (.c (.X 4002002)) [(4002000,.box 3 0 [.I .i64 n]),(4002002,.fW 287 [] [(false,[.P 4002000 0])])] 4002004:=by
 refine aqt (λid=>if id=4002000 then 0 else if id=4002002 then 1000000 else id) Tryz.func281 ae ae ae ae ak (fm0:=[(1000000,.fW 287 [] [(false,[.P 0 0])]),(0,.box 3 0 [.I .i64 n])]) ?_ ak ?_ ?_ ?_
 ·exact rr ae (rb (aqv ae ae ae (λk=>re ae (aF (aqs ar ae)))))
 ·intro id h;have h:id∈[4002002]:=h;simp at h;omega
 ·intro id b h;simp only[ao]at h;split at h
  ·rename_i e;subst e;cases h;exact⟨ae,by decide,λj hj=>by cases hj⟩
  ·split at h
   ·rename_i e;subst e;cases h;exact⟨ae,by decide,λj hj=>by simp[aK.aD,fJ,cD,C.aD]at hj;omega⟩
   ·cases h
 ·intro id b9 h h' e;have key:∀j,(ao j [(4002000,aK.box 3 0 [.I .i64 n]),(4002002,.fW 287 [] [(false,[.P 4002000 0])])]).isSome=true→j=4002000∨j=4002002:=λj hj=>by
   simp only[ao]at hj;split at hj
   ·omega
   ·split at hj
    ·omega
    ·cases hj
  rcases key id h with rfl|rfl<;>rcases key b9 h' with rfl|rfl<;>first|rfl| (revert e;decide)
def aqx{sl:List (Nat×AV)}{mem fO:List (Nat×aK)}{n0:Nat}{gd:List (Nat×Bool)}{d:Nat}{r:AV}{k:Nat}(hk:∀id b,ao id fO=some b→k≤id):St.kn ⟨(d,r)::sl,fO++mem,n0,gd⟩=dI (St.kn ⟨sl,mem,n0,gd⟩) ((.s d,some (.v r))::ug k fO):=by
 funext key;cases key with
 |s t=>
  by_cases e:d=t
  ·subst e;simp[St.kn,ao,dI,bc]
  ·simp[St.kn,ao,dI,bc,e,HC]
 |m j=>
  simp only[St.kn,dI,bc,HD,yR]
  cases h:ao j fO with
  |none=>simp
  |some b=>simp[hk j b h]
section
variable{n:Nat}{sl sl':List (Nat×AV)}{mem mem':List (Nat×aK)}{nx:Nat}{gd gd':List (Nat×Bool)}{ops:Array Oper}{draw:Bool}{p:Pr}{ks cp:List Ks}{i i' n0 cd:Nat}
variable{R:St→Prop}{os:List Oper}{d f:Nat}{args:Array Operand}{dn:Array TypeId}{ty:TypeId}{pos:String}{cJ:Array Edge}{cG:List Oper}{vs:List AV}{r:AV}{fO:List (Nat×aK)}{k':Nat}
def rcN(h:runs eC n nx draw ops.toList os i ⟨sl,mem,n0,gd⟩ .t ks=(⟨some d,.call ⟨.value (.func f),args,dn⟩,ty,pos,cJ,none⟩::cG,i',⟨sl',mem',cd,gd'⟩,p,cp))(hv:kH ⟨sl',mem',cd,gd'⟩ args.toList=some vs)(hf:CX Tryz.prog f vs [] (1000000*nx+1000*i') r fO k')
  (dx:k'≤1000000*nx+1000*(i'+1)) (dJ:∀id∈r.aD,1000000*nx+1000*i'≤id) (hi:∀id b,ao id fO=some b→1000000*nx+1000*i'≤id) (vu:∀id b,ao id fO=some b→∀j∈b.aD,1000000*nx+1000*i'≤j)
  (hk:∀k,RG Tryz.prog n ops draw nx (i'+1) cG ⟨(d,r)::sl',fO++mem',cd,gd'⟩ (cp++[k]) R)
  (hp:p:=by first|trivial| (simp only[Pr.an,Pr.h,num,aA,true_and,and_true];first|done|omega)) (hm:fN vs=[]:=by rfl) (aV:Nat.blt d n=true:=by rfl):RG Tryz.prog n ops draw nx i os ⟨sl,mem,n0,gd⟩ ks R:=
 jE ar h hp (aex (k:=(_,_)) (λho=>ap0 ho ae ae (cY aV) ae hv hm hf dx dJ vu) (λkx aS=>by obtain⟨x,_,h⟩:=jK.1 aS;exact gn _ x kx h) (aqx hi) (λ_ h=>h) (λ_ h=>h) (hk _))
end
def aqz{n:Nat}{st:St}{O:wc}{Q:fG}(h:gM n .ret st O Q):gM n .ret st O (λF=>Exit.noGoto (Q F)):=h
open Classical in
def aqA{a:List Int}{l:List (List Int)}{m:Int}{S:Nat}(h:sA a l m S=true):Rx.zx (gS m l S.testBit)∣Rx.zx a:=a9 h
def aqB{n:Nat}{st stB:St}(hw:Wk st stB):gM n .normal st xH (λF e a W=>e= .normal∧∃g,bJ (F.dr []) (kb stB) stB.kn g W a):=λF _ gV ds g W a hh hO=>by have JP:ds=[]:=hO;subst JP;obtain⟨g',h'⟩:=hw (F.dr []) gV g W a hh;exact⟨ae,g',h'⟩
def aeJ(b:Nat→Bool):∀(l:List (List Int))(i:Nat),iW (bL b i l)≤iW l
 |[],_=>bD _
 |x::l,i=>by
  have:=aeJ b l (i+1);rw[bL];split
  ·simp only[iW];omega
  ·simp only[iW];omega
def zb.next{p:Nat}{a:List Int}{l:List (List Int)}{m:Int}{w:Nat}(h:zb a l m w)(hc:ij p m a l){S:Nat}(hS:S∈iH l.length)(hd:Rx.zx (gS m l S.testBit)∣Rx.zx a):zb (rj a (gS m l S.testBit)) (bL (λi=> !S.testBit i) 0 l) m w:=by
 obtain⟨r1,r2,r3,r4⟩:=hc.rest hS hd;have Ub:Rx.zx (rj a (gS m l S.testBit))∣Rx.zx a:=by rw[r1];exact Rx.dvd_mul_left _ _
 refine⟨r2.am,?_,by have:=h.ln;omega,λf hf=>h.lm f (xF hf),h.hm,h.w1,h.w0,h.mB,λi=>?_,λf hf=>h.lB f (xF hf)⟩
 ·have e1:=r2.len;have e2:=hc.len;have e3:=aeJ (λi=> !S.testBit i) l 0;have:=h.la;omega
 ·have h1:=hc.bd _ r2.am Ub i;have h2:=h.mB;unfold aW at*;omega
set_option maxRecDepth 100000 in
set_option maxHeartbeats 16000000 in
def aqC{p:Nat}{a:List Int}{l:List (List Int)}{m:Int}{w:Nat}(h:zb a l m w)(hc:ij p m a l)(hl:l≠[]):aG Tryz.prog 257 [cS .z a,cS (.sl .z) l,aZ m] (cS (.sl .z) (tG m l.length a l)):=by
 refine ap2 (nx:=1) (n:=75) ae ae ae ae ae ae ae ?_;refine kr Ol ae (apk (kr Ol ae (rq (api (oA ?_)))));refine uL (JH (α:=List (List Int)×List Int×List (List Int)) (λs=>⟨ru we,[(3000000,.vec 57 (.sl .z) s.1),(1000000,.box 57 0 [.S .z s.2.1]),(1001000,.box 61 0 [.S (.sl .z) s.2.2]),(1002000,.box 44 0 (av .z m)),(2000000,.box 61 0 [.X 3000000])],4,[]⟩) (λs=>zb s.2.1 s.2.2 m w∧ij p m s.2.1 s.2.2∧s.2.2≠[]∧(∃k,s.2.2.length≤k∧s.1++tG m k s.2.1 s.2.2=tG m l.length a l)∧s.1.length+s.2.2.length≤8) (λs=>s.2.2.length) ([],a,l) ⟨h,hc,hl,⟨l.length,bD _,ae⟩,by have:=h.ln;simpa using this⟩ (ap5 3000000 57 (.sl .z) ⟨sR ae,sR ae,sR ae,sR ae,ah⟩ ⟨.inl (bR ae),.inl (bR ae),.inl (bR ae),.inr ⟨_,_,ae,ae⟩,ah⟩ ae (eQ.of ae)) ?_);generalize hR:tG m l.length a l=R;clear h hc hl;rintro⟨fd,a,l⟩ ⟨h,hc,hl,⟨k,hk,he⟩,hn⟩;dsimp only at h hc hl hk he hn⊢;refine uL (rq (Dc Ol ?_));refine rcN ae ae (aqw _) ak (λid al=>?_) (λid b hb=>?_) (λid b hb j hj=>?_) (λ_=>re ae ?_)
 ·rw[jJ.1 al];decide
 ·have:=A8 hb;simp only[dC,cE,Pv,or_false]at this;rcases this with⟨rfl,_⟩|⟨rfl,_⟩<;>decide
 ·have:=A8 hb;simp only[dC,cE,Pv,or_false]at this;rcases this with⟨rfl,rfl⟩|⟨rfl,rfl⟩
  ·cases hj
  ·rw[jJ.1 hj];decide
 refine uL ?_;refine Da (st':=⟨(18,.c (.X 4002002))::ru we,(4002002,.fW 287 [] [(false,[.P 4002000 0])])::mC l.length a l m fd,5,[]⟩) bY ?_;have iB:wa m a l=(iH l.length).find? (sA a l m):=rfl;have eB:∀{L:List (Nat×aK)},((L.map Prod.fst).contains 0||(L.map λx=>x.2.aD.contains 0).contains true)=false→∀id b,ao id L=some b→id≠0∧0∉b.aD:=λ{L} hL id b hb=>by
  have hm:=A8 hb;rw[Bool.or_eq_false_iff]at hL;refine⟨λe=>?_,λe=>?_⟩
  ·subst e;have:(L.map Prod.fst).contains 0=true:=by rw[WI];exact List.mem_map_of_mem (f:=Prod.fst) hm
   rw[hL.1]at this;cases this
  ·have:(L.map λx=>x.2.aD.contains 0).contains true=true:=by rw[WI];exact nW.2 ⟨_,hm,by rw[WI];exact e⟩
   rw[hL.2]at this;cases this
 have aeK:∀x id b,ao id (mF l.length a l m fd x)=some b→id≠0∧id<5000000∧∀j∈b.aD,j<5000000:=λx id b hb=>by have h1:=(eQ.of (K:=5000000) (m:=mF l.length a l m fd x) ae) id b hb;exact⟨(eB ae id b hb).1,h1⟩
 have aqD:∀id b,ao id (mC l.length a l m fd)=some b→id≠0∧id<5000000∧∀j∈b.aD,j<5000000:=λid b hb=>by have h1:=(eQ.of (K:=5000000) (m:=mC l.length a l m fd) ae) id b hb;exact⟨(eB ae id b hb).1,h1⟩
 refine apM (n0:=75) (nI:=27) (p:=19) (cid:=4002002) (f:=287) (capsI:=Ou) (wsI:=[.c (.P 4002000 0)]) (Sc:=we) (M:=mC l.length a l m fd) (Mo:=match(iH l.length).find? (sA a l m)with|none=>mC l.length a l m fd|some S=>mF l.length a l m fd S) (bo:=((iH l.length).find? (sA a l m)).isNone) (xid:=1) ae ae ae ae ae ae ae ae (show 1+1≤27 by decide) (show 1≤5 by decide) (show 19<75 by decide) ae ae ?_ ae ?_ ?_ ?_ ?_ ?_ ?_
 ·intro s hs;simp only[we,dC,Pv,or_false]at hs;rcases hs with rfl|rfl|rfl|rfl<;>rfl
 ·intro t v ht hv;have:=A8 ht;simp only[ru,we,jL,GL,dC,cE,Pv,or_false]at this;rcases this with⟨_,rfl⟩|⟨_,rfl⟩|⟨_,rfl⟩|⟨_,rfl⟩|⟨_,rfl⟩<;>exact absurd (jJ.1 hv) ak
 ·intro id b hb;refine(bH (λe=>?_)).trans hb;subst e;cases hb
 ·exact eB ae
 ·intro id b hb;split at hb
  ·exact aqD id b hb
  ·exact aeK _ id b hb
 ·intro R ok e1 e2 e3 e4 e5 e6;have hit:=aqc (R:=R) ok e3 e2 (n:=l.length) (a:=a) (l:=l) (m:=m) (fd:=fd) h.ln (good:=sA a l m) (Mo:=λx=>mF l.length a l m fd x) (nxr:=30) ae (λx=>aeK x) (λx hx=>⟨⟨[(8,cU x),(3,.c (.P 1000000 0)),(4,.c (.P 1001000 0)),(5,.c (.P 1002000 0)),(7,.c (.P 2000000 0))],oC::mC l.length a l m fd,31,[]⟩,by show 1≤31;decide,by
   rw[e1,e2,e4,e5];exact kt aee ae (aqB bY),by
   rw[e1,e6];have hr:=aql h (fd:=fd) af (x:=x) (by have h1:=(y8.1 hx).1;have h2:2^l.length≤2^8:=jV ak h.ln;omega) ae;cases hg:sA a l m x<;>rw[hg]at hr<;>exact hr⟩) ae
  cases hf:(iH l.length).find? (sA a l m)<;>rw[hf]at hit<;>exact hit
 ·cases hf:(iH l.length).find? (sA a l m)with
  |none=>
   have cy:tG m k a l=[a]:=by
    cases k with
    |zero=>rfl
    |succ k=>rw[tG,iB,hf]
   rw[←he,cy]
   refine A7 (oA (Dc Ol (rl (.sl .z) [a] ae ae (ra ae ae ae ae ae ae ae ae ae ?_ ?_ (re ae ?_)))))
   ·show(fd.length+1+(fd.length+1)/4+192)*24≤_;omega
   ·show(fd.length+1)*1≤_;omega
   refine Da (st':=⟨[(6,.c (.X 5003000))],[(5003000,.vec 57 (.sl .z) (fd++[a]))],6,[]⟩) bY (Da (oP 5003000 ae) (ad6 (F4 (apj (F4 (aqz (ap1 ar ae (au.refl _))))))))
  |some S=>
   have hS:S∈iH l.length:=List.mem_of_find?_eq_some hf
   have hd:Rx.zx (gS m l S.testBit)∣Rx.zx a:=aqA (List.find?_some hf)
   obtain⟨r1,r2,r3,r4⟩:=hc.rest hS hd
   refine ad9 (JF (JG (Db (fd++[gS m l S.testBit],rj a (gS m l S.testBit),bL (λi=> !S.testBit i) 0 l) ⟨h.next hc hS hd,r2,r3,?_,?_⟩ r4 bY)))
   ·cases k with
    |zero=>exact absurd (iu af) hl
    |succ k=>
     refine⟨k,by show(bL (λi=> !S.testBit i) 0 l).length≤k;omega,?_⟩
     rw[←he,tG,iB,hf]
     show(fd++[gS m l S.testBit])++_=_
     rw[np];rfl
   ·show(fd++[gS m l S.testBit]).length+(bL (λi=> !S.testBit i) 0 l).length≤8;rw[kA];show fd.length+1+_≤8;omega
end Go.El
namespace Go.El
open Go Go.Proofs Fx
structure dL(p:Nat)(a:List Int):Prop where
 H:bI p
 am:bT a
 l2:2≤a.length
 l9:a.length≤9
 co:Co (fx a:Fx p) (bG (fx a))
def aeM:∀(l m:List (List Int)),lG (l++m)=lG l*lG m
 |[],m=>by rw[wH,lG,PS.one_mul]
 |f::l,m=>by rw[mX,lG,lG,aeM l m];ac_rfl
def aeN:∀(l m:List (List Int)),iW (l++m)=iW l+iW m
 |[],m=>by rw[wH,iW,eZ]
 |f::l,m=>by rw[mX,iW,iW,aeN l m];omega
def Vk(F:Nat→List Int):∀r,lG ((List.range r).map F)=fE (λi=>ps (F i)) r
 |0=>rfl
 |r+1=>by rw[qk,eh,aeM,Vk F r,fE,jL,GL,lG,lG,PS.mul_one]
def Ow(F:Nat→List Int):∀r,iW ((List.range r).map F)=ov (λi=>(F i).length-1) r
 |0=>rfl
 |r+1=>by rw[qk,eh,aeN,Ow F r,ov,jL,GL,iW,iW,kg]
def Ox(L:List (List Int)):(List.range L.length).map (λi=>L.getD i [])=L:=by
 refine nV be λi h1 h2=>?_
 rw[sH,Bj,aU,cr h2];rfl
def aeO{p:Nat}:∀l:List (List Int),j5 p l=iG l
 |[]=>rfl
 |f::l=>by rw[j5,iG,aeO l]
def aeP{p:Nat}(H:bI p):∀{l:List (List Int)},(∀g∈l,cj (fx g:Fx p))→lE (iG l:Fx p)→l.Pairwise (λx y=>Co (fx x:Fx p) (fx y))
 |[],_,_=>List.Pairwise.nil
 |x::l,h,hs=>by
  have key:∀{l:List (List Int)}{y:List Int},y∈l→(fx y:Fx p)∣iG l:=by
   intro l;induction l with
   |nil=>intro f hf;cases hf
   |cons y l ih=>
    intro f hf
    rcases dC.1 hf with rfl|hf
    ·exact⟨iG l,by rw[iG,mul_comm]⟩
    ·obtain⟨w,hw⟩:=ih hf;exact⟨fx y*w,by rw[iG,hw,mul_assoc]⟩
  refine jW.2 ⟨λy hy=>?_,aeP H (λg hg=>h g (by simp[hg])) (hs.of_dvd ⟨fx x,ae⟩)⟩;have hx:=h x be;refine AH H (λe=>by have:=hx.1;rw[e,kJ H.pos]at this;omega) λQ hQ d1 d2=>hs Q hQ ?_
  obtain⟨u,hu⟩:=d1;obtain⟨v,hv⟩:=dvd_trans d2 (key hy);refine⟨u*v,?_⟩;show fx x*iG l=_;rw[hu,hv];ac_rfl
section
variable{p:Nat}{a:List Int}
def dL.p1(h:dL p a):1<(p:Int):=by have:=h.H.hp.1;omega
def dL.trim(h:dL p a):a7 (md p a)=md p a:=(h.am.md h.p1).trim
def dL.f(h:dL p a):Mon p (md p a)∧(md p a).length=a.length∧(fx (md p a):Fx p)=fx a:=by refine⟨⟨?_,(h.am.md h.p1).1,(h.am.md h.p1).2⟩,yF _ _,SF a⟩;rw[←h.trim];exact nJ h.H.pos (Cp h.H.pos a)
def dL.ne(h:dL p a):(fx a:Fx p)≠0:=λe=>by have:=v8 h.H h.am;rw[e,kJ h.H.pos]at this;have:=h.l2;omega
def dL.vO(h:dL p a):lE (fx a:Fx p):=by obtain⟨U,V,e⟩:=h.co;exact aae h.H h.ne (D:=1) (U:=U) (V:=V) (mul_one _).symm e.symm
noncomputable def dL.Ls(h:dL p a):List (List Int):=nO h.H (md p a)
def dL.mQ(h:dL p a):Na p (md p a) h.Ls:=by obtain⟨f1,f2,f3⟩:=h.f;exact Tz h.H f1 (by have:=h.l2;omega) (by have:=h.l9;omega) (by rw[f3];exact h.vO)
def dL.Vl(h:dL p a):(fx a:Fx p)=iG h.Ls:=by rw[←aeO,h.mQ.prod,h.f.2.2]
def dL.Vm(h:dL p a):∀f∈h.Ls,bT f:=λf hf=>⟨(h.mQ.parts f hf).1.ne,(h.mQ.parts f hf).1.one⟩
def dL.pair(h:dL p a):h.Ls.Pairwise (λx y=>Co (fx x:Fx p) (fx y)):=aeP h.H (λg hg=>(h.mQ.parts g hg).2.2) (by rw[←h.Vl];exact h.vO)
def dL.dg(h:dL p a):a.length=1+iW h.Ls:=by obtain⟨t1,t2⟩:=AZ h.p1 C1 h.Vm;rw[←v8 h.H h.am,h.Vl,←A0 h.Ls p (KM _),v8 h.H t1,t2];rfl
def aeQ:∀{l:List (List Int)},(∀f∈l,2≤f.length)→l.length≤iW l∧∀f∈l,f.length≤1+iW l
 |[],_=>⟨bD _,λf hf=>by cases hf⟩
 |x::l,h=>by
  obtain⟨i1,i2⟩:=aeQ (l:=l) λf hf=>h f (by simp[hf])
  have:=h x be;refine⟨by rw[fv,iW];omega,λf hf=>?_⟩;rw[iW];rcases dC.1 hf with rfl|hf
  ·omega
  ·have:=i2 f hf;omega
def dL.two(h:dL p a):∀f∈h.Ls,2≤f.length:=λf hf=>(h.mQ.parts f hf).2.1
def dL.r8(h:dL p a):h.Ls.length≤8∧∀f∈h.Ls,f.length≤9:=by obtain⟨i1,i2⟩:=aeQ h.two;have:=h.dg;have:=h.l9;exact⟨by omega,λf hf=>by have:=i2 f hf;omega⟩
def dL.Lne(h:dL p a):h.Ls≠[]:=λe=>by have h1:=h.dg;rw[e]at h1;have:=h.l2;rw[h1]at this;exact absurd this ak
def dL.at(h:dL p a){i:Nat}(hi:i<h.Ls.length):h.Ls.getD i []∈h.Ls:=by rw[aU,cr hi];exact k6 hi
def dL.xj(h:dL p a){i j:Nat}(hi:i<h.Ls.length)(hj:j<h.Ls.length)(aR:j≠i):gy p (ps (h.Ls.getD j [])) (ps (h.Ls.getD i [])):=by
 refine Z5.1 ?_;have e:∀k,k<h.Ls.length→h.Ls.getD k []=h.Ls[k]! :=λk hk=>by simp[aU,hk]
 have hp:=Kq.1 h.pair;have g:∀k(hk:k<h.Ls.length),h.Ls.getD k []=h.Ls[k]:=λk hk=>by rw[aU,cr hk];rfl
 rw[g i hi,g j hj];rcases WQ aR with br|br
 ·exact hp j i hj hi br
 ·exact(hp i j hi hj br).symm
def dL.liH(h:dL p a):tD p (λi=>h.Ls.getD i []) h.Ls.length:=by
 obtain⟨r1,r2⟩:=h.r8;have hc:∀j,j<h.Ls.length→bX p (h.Ls.getD j []):=λj hj=>(h.mQ.parts _ (h.at hj)).1.c
 refine⟨h.H.hp,h.H.le,by omega,hc,λi hi=>h.two _ (h.at hi),λi hi=>by have:=r2 _ (h.at hi);omega,λi hi=>?_⟩;exact adg h.H.hp h.H.le hi hc (h.Vm _ (h.at hi)).1 (λj hj aR=>h.xj hi hj aR) _ (bD _)
def dL.fD(h:dL p a):a.length=(fD (λi=>h.Ls.getD i []) p h.Ls.length).length:=by rw[UB _ _ _ (λi hi=>by have:=h.two _ (h.at hi);omega),←Ow (λi=>h.Ls.getD i []) h.Ls.length,Ox,h.dg,KH]
def dL.Oy(h:dL p a):v7 p a (λi=>h.Ls.getD i []) h.Ls.length:=by
 refine⟨h.liH,λi hi=>h.Vm _ (h.at hi),λi hi=>?_,h.am,h.fD,?_⟩
 ·have key:∀n,n≤i→gy p (fE (λj=>ps (h.Ls.getD j [])) n) (ps (h.Ls.getD i [])):=by
   intro n;induction n with
   |zero=>intro _;exact gy.one _
   |succ n ih=>
    intro hn
    exact(ih af).mul (h.xj hi af af) (NX n λj _=>aY.ps _ _)
  exact key i (bD _)
 ·rw[←Vk (λi=>h.Ls.getD i []) h.Ls.length,Ox];have e:(fx a:Fx p)=iG h.Ls:=h.Vl;rw[C2]at e;exact mk_eq.1 e
end
def aeT(a:List Int):∀n,((nH a n:Nat):Int)=sm (λi=>((a.getD i 0).natAbs:Int)) n
 |0=>rfl
 |n+1=>by rw[nH,sm,←aeT a n,xV]
def aeU{a:List Int}(am:bT a){g:List Int}(gm:bT g)(hd:Rx.zx g∣Rx.zx a)(i:Nat):(g.getD i 0).natAbs≤fk a:=by
 obtain⟨k,hk⟩:=hd;have C4:Rx.Mo k:=by have:=Rx.ou am;rw[hk]at this;exact this.CP (Rx.ou gm)
 obtain⟨i1,_⟩:=Rx.UL C4 (Rx.ou gm) (hk▸Rx.CZ a);obtain⟨q,q1,q2⟩:=Rx.NR i1;subst q2;have qm:bT q:=Rx.NS q1 C4;have Az:=Rx.NT hk.symm;have l1:=cZ.2 qm.1;have l2:=cZ.2 gm.1;have l3:=cZ.2 am.1;have hs:=Rx.eH C4.ne (Rx.ou gm).ne;rw[←hk,Rx.mT am.can,Rx.mT q1,Rx.mT gm.can]at hs;have hb:=Rx.acz (A:=ps g) (B:=ps q) (k:=g.length-1) (l:=q.length-1) (λj hj=>dH g af) (λj hj=>dH q af) (by rw[dV,qm.2];decide) i;rw[PS.mul_comm,Az,show g.length-1+(q.length-1)=a.length-1 by omega]at hb;have hn:Rx.vX (a.length-1) (ps a)=((nH a a.length:Nat):Int):=by rw[aeT,Rx.vX,show a.length-1+1=a.length by omega];rfl
 rw[hn]at hb;have e:((fk a:Nat):Int)=2^(a.length-1)*((nH a a.length:Nat):Int):=by rw[fk,gi,uX,fh];rfl
 rw[←e,dV]at hb;omega
section
variable{p:Nat}{a:List Int}
noncomputable def dL.lf(h:dL p a)(k:Nat):List (List Int):=AW p a (λi=>h.Ls.getD i []) h.Ls.length k
def dL.F8(h:dL p a)(k:Nat):(h.lf k).length=h.Ls.length:=by simp[dL.lf,AW]
def dL.aeV(h:dL p a){k:Nat}(hk:1≤k){i:Nat}(hi:i<h.Ls.length)(pC:i<(h.lf k).length):bT (h.lf k)[i]∧(h.lf k)[i].length=(h.Ls.getD i []).length∧(fx (h.lf k)[i]:Fx p)=fx (h.Ls.getD i [])∧∀j,(h.lf k)[i].getD j 0=ft ((cX p a (λi=>h.Ls.getD i []) h.Ls.length (k-1) i).getD j 0) ((p:Int)^k):=by
 obtain⟨s,rfl⟩:∃s,k=s+1:=⟨k-1,by omega⟩;have hh:=h.Oy;have h1:=hh.pw s;obtain⟨o1,o2⟩:=hh.one s hi;have e:(h.lf (s+1))[i]=(cX p a (λi=>h.Ls.getD i []) h.Ls.length s i).map (ft · ((p:Int)^(s+1))):=by simp[dL.lf,AW]
 rw[e];refine⟨UD h1 o2,by rw[dM,o1],?_,λj=>C0 _ af j⟩;have:=hh.image s hi;rw[←this,xn,SF]
def dL.aqE(h:dL p a){k:Nat}(hk:1≤k):(h.lf k).map (fx (p:=p))=h.Ls.map fx:=by
 refine nV (by simp[h.F8]) λi h1 h2=>?_
 rw[sH,sH];have hi:i<h.Ls.length:=gY;rw[(h.aeV hk hi (by rw[h.F8];exact hi)).2.2.1,aU,cr hi];rfl
def dL.Oz(h:dL p a){k:Nat}(hk:1≤k){f:List Int}(hf:f∈h.lf k):∃i,∃hi:i<h.Ls.length,bT f∧f.length=(h.Ls.getD i []).length∧(fx f:Fx p)=fx (h.Ls.getD i [])∧∀j,f.getD j 0=ft ((cX p a (λi=>h.Ls.getD i []) h.Ls.length (k-1) i).getD j 0) ((p:Int)^k):=by
 obtain⟨i,hi,rfl⟩:=WK hf;have vp:i<h.Ls.length:=by rw[←h.F8 k];exact hi
 exact⟨i,vp,h.aeV hk vp hi⟩
def dL.cbH(h:dL p a){k:Nat}(hk:1≤k)(hb:2*fk a<p^k):ij p ((p:Int)^k) a (h.lf k):=by
 refine⟨h.H,⟨k,hk,ae⟩,h.am,λf hf=>?_,λf hf=>?_,?_,?_,h.vO,?_,λg g1 g2 i=>?_⟩
 ·obtain⟨i,hi,h1,_⟩:=h.Oz hk hf;exact h1
 ·obtain⟨i,hi,_,_,h3,_⟩:=h.Oz hk hf;rw[h3];exact(h.mQ.parts _ (h.at hi)).2.2
 ·have h1:(h.Ls.map (fx (p:=p))).Pairwise Co:=KC.2 h.pair;rw[←h.aqE hk]at h1;exact KC.1 h1
 ·obtain⟨s,rfl⟩:∃s,k=s+1:=⟨k-1,by omega⟩;have hh:=h.Oy;refine(hh.all s).2.2.trans ?_;show Cg _ _ (lG ((List.range h.Ls.length).map λi=>(cX p a (λi=>h.Ls.getD i []) h.Ls.length s i).map (ft · ((p:Int)^(s+1)))));rw[Vk];refine NW _ λi hi=>Cg.of λj=>?_
  have h1:=hh.pw s;show(cX p a (λi=>h.Ls.getD i []) h.Ls.length s i).getD j 0%_=((cX p a (λi=>h.Ls.getD i []) h.Ls.length s i).map (ft · ((p:Int)^(s+1)))).getD j 0%_;rw[C0 _ af,UC af]
 ·rw[h.dg];refine ay (1+·) ?_;show _=iW ((List.range h.Ls.length).map λi=>(cX p a (λi=>h.Ls.getD i []) h.Ls.length (k-1) i).map (ft · ((p:Int)^k)));rw[Ow,←Ox h.Ls,Ow];rw[Ox];refine adv _ λi hi=>?_
  rw[dM,(h.Oy.one (k-1) hi).1]
 ·have:=aeU h.am g1 g2 i;have e:((p^k:Nat):Int)=(p:Int)^k:=uX p k;rw[←e];omega
end
def rv(p:Nat)(a:List Int):Bool:=decide ((gx p (a7 (md p a)) (a7 (fC p (a7 (md p a))))).length=1)
def aeX{p:Nat}(H:bI p)(a:List Int):rv p a=true↔Co (fx a:Fx p) (bG (fx a)):=by
 have hf:bX p (a7 (md p a)):=nJ H.pos (Cp H.pos a);have hd:bX p (a7 (fC p (a7 (md p a)))):=nJ H.pos (Nc xN _);have e1:(fx (a7 (md p a)):Fx p)=fx a:=by rw[xn,SF]
 have e2:(fx (a7 (fC p (a7 (md p a)))):Fx p)=bG (fx a):=by rw[xn,TD,e1]
 unfold rv;rw[decide_eq_true_iff,Sr H.hp H.le hf hd,←Z5,e1,e2]
def Vn(p b:Nat)(hp:2≤p):∃k,1≤k∧b<p^k∧∀j,1≤j→j<k→p^j≤b:=by
 have h1:∀n,n<p^n:=λn=>kv Nat.lt_two_pow_self (GA hp n)
 have key:∀n,(∀j,1≤j→j<n+1→p^j≤b)∨∃k,1≤k∧b<p^k∧∀j,1≤j→j<k→p^j≤b:=by
  intro n;induction n with
  |zero=>exact .inl λj a b=>by omega
  |succ n ih=>
   rcases ih with ih|ih
   ·by_cases h:p^(n+1)≤b
    ·refine .inl λj h1 h2=>?_
     by_cases e:j=n+1
     ·rw[e];exact h
     ·exact ih j h1 af
    ·exact .inr ⟨n+1,by omega,by omega,ih⟩
   ·exact .inr ih
 rcases key (b+1)with h|h
 ·have:=h (b+1) af af;have:=h1 (b+1);omega
 ·exact h
open Classical in
noncomputable def lH(p b:Nat):Nat:=if hp:2≤p then Classical.choose (Vn p b hp)else 1
def JR{p:Nat}(hp:2≤p)(b:Nat):1≤lH p b∧b<p^lH p b∧∀j,1≤j→j<lH p b→p^j≤b:=by have e:lH p b=Classical.choose (Vn p b hp):=dif_pos hp;rw[e];exact xQ (Vn p b hp)
structure oD(a:List Int):Prop where
 am:bT a
 l2:2≤a.length
 l9:a.length≤9
 aB:∀i,aW 6 (a.getD i 0)
 ex:∃p∈gJ,Co (fx a:Fx p) (bG (fx a))
def OA{p:Nat}(h:p∈gJ):bI p:=⟨NA h,by have:=(vY h).2;omega⟩
def oD.md{a:List Int}(h:oD a){p:Nat}(hp:p∈gJ)(hg:rv p a=true):dL p a:=⟨OA hp,h.am,h.l2,h.l9,(aeX (OA hp) a).1 hg⟩
def oD.wa{a:List Int}(h:oD a):∃p,gJ.find? (rv · a)=some p∧p∈gJ∧rv p a=true:=by
 obtain⟨p,hp,hc⟩:=h.ex;have hg:=(aeX (OA hp) a).2 hc;cases hf:gJ.find? (rv · a)with
 |none=>exact absurd hg (by simpa using KA.1 hf p hp)
 |some q=>exact⟨q,ae,List.mem_of_find?_eq_some hf,by simpa using List.find?_some hf⟩
open Classical in
noncomputable def uM(a:List Int):List (List Int):=
 if a.length=2 then[a]else
 match gJ.find? (rv · a)with
 |some p=>if h:dL p a then tG ((p:Int)^lH p (2*fk a)) (h.lf (lH p (2*fk a))).length a (h.lf (lH p (2*fk a)))else[]
 |none=>[]
def aeY{a:List Int}(h:a.length=2):uM a=[a]:=aw h
def aeZ{a:List Int}{p:Nat}(h:dL p a)(h2:a.length≠2)(hf:gJ.find? (rv · a)=some p):uM a=tG ((p:Int)^lH p (2*fk a)) (h.lf (lH p (2*fk a))).length a (h.lf (lH p (2*fk a))):=by unfold uM;rw[aq h2,hf];exact dif_pos h
def ae0{A:Rx}(h:Rx.sz A=2):Rx.cj A:=by
 refine⟨by omega,λX Y e=>?_⟩;have hA:A≠0:=λe=>by rw[e,Rx.kJ]at h;omega
 have hX:X≠0:=λe2=>hA (by rw[e,e2,Rx.zero_mul])
 have hY:Y≠0:=λe2=>hA (by rw[e,e2,Rx.mul_zero])
 have h3:=Rx.eH hX hY;rw[←e,h]at h3;have:=Rx.eP hX;have:=Rx.eP hY;omega
def ae1{a:List Int}(h:oD a):(∀r∈uM a,bT r∧Rx.cj (Rx.zx r))∧Rx.sx (uM a)=Rx.zx a:=by
 by_cases h2:a.length=2
 ·rw[aeY h2];refine⟨λr hr=>?_,Rx.mul_one _⟩;rw[jJ.1 hr];exact⟨h.am,ae0 (by rw[Rx.mT h.am.can];exact h2)⟩
 ·obtain⟨p,f1,f2,f3⟩:=h.wa;have hm:=h.md f2 f3;obtain⟨k1,k2,k3⟩:=JR (p:=p) (by have:=(vY f2).1;omega) (2*fk a);rw[aeZ hm h2 f1];exact ij.all _ (bD _) (λe=>hm.Lne (iu (by rw[←hm.F8,e];rfl))) (hm.cbH k1 k2)
def oD.bB{a:List Int}(h:oD a):aW 8 ((2*fk a:Nat):Int):=by have h1:=T2 a h.aB (i:=a.length) (by have:=h.l9;omega);have h2:2^(a.length-1)≤2^8:=jV ak (by have:=h.l9;omega);unfold aW at*;rw[pt]at*;have h3:fk a≤nH a a.length*2^8:=lJ _ h2;have e:(4294967296:Nat)^8=4294967296^7*4294967296:=jl ..;omega
def oD.mB{a:List Int}(h:oD a){p:Nat}(hp:p∈gJ):aW 9 ((p:Int)^lH p (2*fk a))∧lH p (2*fk a)≤257:=by
 have hb:=h.bB;obtain⟨k1,k2,k3⟩:=JR (p:=p) (by have:=(vY hp).1;omega) (2*fk a);generalize lH p (2*fk a)=k at*;generalize 2*fk a=b at*;obtain⟨q1,q2⟩:=vY hp;unfold aW at hb;rw[pt]at hb;by_cases e:k=1
 ·subst e;refine⟨?_,by omega⟩;unfold aW;rw[fU,wJ,ja,pt];have:(4294967296:Nat)^1≤4294967296^9:=jV ak ak;omega
 ·obtain⟨j,rfl⟩:∃j,k=j+1:=⟨k-1,by omega⟩;have h3:=k3 j af af;have h4:p^j<4294967296^8:=af;constructor
  ·unfold aW;rw[←uX,pt,jl];have h5:p^j*p≤p^j*4294967296:=lJ _ af;have e:(4294967296:Nat)^9=4294967296^8*4294967296:=jl ..;omega
  ·have h6:2^j≤p^j:=GA af j;have h7:(2:Nat)^j<2^256:=by refine zy h6 ?_;have:(4294967296:Nat)^8=2^256:=ak;omega
   have:=(Nat.pow_lt_pow_iff_right (a:=2) ak).1 h7;omega
def oD.rn{a:List Int}(h:oD a){p:Nat}(hp:p∈gJ)(hm:dL p a):zb a (hm.lf (lH p (2*fk a))) ((p:Int)^lH p (2*fk a)) 9:=by
 obtain⟨k1,k2,k3⟩:=JR (p:=p) (by have:=(vY hp).1;omega) (2*fk a);obtain⟨m1,m2⟩:=h.mB hp;obtain⟨r1,r2⟩:=hm.r8;have Ar:(1:Int)<(p:Int)^lH p (2*fk a):=by obtain⟨s,hs⟩:∃s,lH p (2*fk a)=s+1:=⟨lH p (2*fk a)-1,by omega⟩;rw[hs];exact hm.Oy.pw s
 refine⟨h.am,by have:=h.l9;omega,by rw[hm.F8];exact r1,λf hf=>?_,Ar,by decide,by decide,m1,λi=>(h.aB i).le ak,λf hf i=>?_⟩
 ·obtain⟨i,hi,f1,f2,_⟩:=hm.Oz k1 hf;exact⟨f1,by rw[f2];have:=r2 _ (hm.at hi);omega⟩
 ·obtain⟨j,hj,_,_,_,f4⟩:=hm.Oz k1 hf;rw[f4];exact acI af m1
def oD.liA{a:List Int}(h:oD a){p:Nat}(hp:p∈gJ)(hm:dL p a):sr p a (λi=>hm.Ls.getD i []) hm.Ls.length (lH p (2*fk a)) 6:=by obtain⟨k1,k2,k3⟩:=JR (p:=p) (by have:=(vY hp).1;omega) (2*fk a);exact⟨hm.liH,k1,by have:=(h.mB hp).2;omega,by have:=h.l9;omega,by decide,h.aB,hm.fD⟩
def aqG(p:Nat)(L:List (List Int)):jh (λi=>L.getD i []) L.length p=lP p L:=by
 unfold jh lP;refine nV be λi h1 h2=>?_
 have hi:i<L.length:=gY;simp[aU,hi]
end Go.El
namespace Go.El
open Go Go.Proofs
abbrev Vo:AV:= .c (.V (.func (.func 250) ⟨[]⟩ ⟨[]⟩))
def aqH(q:List Rat)(c:Rat):aG Tryz.prog 250 [cS .q q,aQ c] (.t []):=by refine aX Tryz.func250 ae ae ae ae ae ak ?_;exact rt ae (ah' ar ae (au.refl _))
def j7(a b:List Rat):List Rat:=if a.length<b.length then a else eo ((gK (b.getD (b.length-1) 0)⁻¹ a b (b.length-1) (a.length+1-b.length) (a.length+1-b.length)).2.take (b.length-1))
def c9(r:List Rat):List Rat:=if r=[]then[]else eo (oz (r.getD (r.length-1) 0)⁻¹ r)
def ji:Nat→List Rat→List Rat→List Rat
 |0,a,_=>a
 |k+1,a,b=>if b=[]then a else ji k b (c9 (j7 a b))
structure EuS(s:Nat)(a b:List Rat):Prop where
 la:a.length≤500
 lb:b.length≤500
 bn:b.getD (b.length-1) 0≠0
 qb:∀i,QS s (b.getD i 0)
 qS:∀j,j≤a.length+1-b.length→∀i,QS s ((gK (b.getD (b.length-1) 0)⁻¹ a b (b.length-1) (a.length+1-b.length) j).2.getD i 0)
 rn:j7 a b≠[]→(j7 a b).getD ((j7 a b).length-1) 0≠0
 qr:∀i,QS s ((j7 a b).getD i 0)
def Dd(s:Nat):Nat→List Rat→List Rat→Prop
 |0,_,b=>b=[]
 |k+1,a,b=>b=[]∨(EuS s a b∧Dd s k b (c9 (j7 a b)))
def aqI{s:Nat}(h1:1≤s)(hs:s≤100000000){a b:List Rat}(hb:b≠[])(h:EuS s a b):∃q,aG Tryz.prog 251 [cS .q a,cS .q b] (.t [(false,[.S .q q]),(false,[.S .q (j7 a b)]),(false,[.I .i64 0])]):=by
 have hl:=cZ.2 hb;have la:=h.la;have lb:=h.lb;by_cases br:a.length<b.length
 ·rw[j7,aw br];exact⟨_,ad0 a b br af⟩
 ·rw[j7,aq br];exact⟨_,adZ h1 hs a b (b.length-1) (a.length+1-b.length) af af af af h.bn h.qb h.qS⟩
def OB(l:List Rat):(eo l).length≤l.length:=Ww
def OC{a b:List Rat}(hb:b≠[]):(j7 a b).length<b.length:=by
 have hl:=cZ.2 hb;unfold j7;split
 ·assumption
 ·exact zy (OB _) zt
set_option maxHeartbeats 4000000 in
def aqJ{s:Nat}(h1:1≤s)(hs:s≤100000000)(k:Nat)(a b:List Rat)(h:Dd s k a b):aG Tryz.prog 249 [cS .q a,cS .q b,Vo] (cS .q (ji k a b)):=by
 refine aX Tryz.func249 ae ae ae ae ae ak ?_;refine rr ae (aj (aH (bA (α:=Nat×List Rat×List Rat) (λx=>⟨[(0,cS .q x.2.1),(1,cS .q x.2.2),(2,Vo)],[],2,[]⟩) (λx=>Dd s x.1 x.2.1 x.2.2∧ji x.1 x.2.1 x.2.2=ji k a b) (λx=>x.1) (k,a,b) ⟨h,ae⟩ bY ?_)));rintro⟨k',f,g⟩ ⟨h2,h3⟩;simp only at h2 h3;refine aj (rr ae (ax ae (λh4=>?_) (λh4=>?_)))
 ·have hg:g≠[]:=λe=>by subst e;cases h4
  clear h4;cases k' with
  |zero=>exact absurd h2 hg
  |succ k'=>
   rw[Dd]at h2
   rcases h2 with h2|⟨h2,h5⟩
   ·exact absurd h2 hg
   rw[ji,aq hg]at h3
   obtain⟨q,qL⟩:=aqI h1 hs hg h2
   have kF:=OC (a:=f) hg
   have lb:=h2.lb
   have vo:=h2.rn
   have JS:=h2.qr
   generalize j7 f g=r at*
   obtain⟨c,hc⟩:∃c:Rat,c=if r=[]then 1 else(r.getD (r.length-1) 0)⁻¹ :=⟨_,ae⟩
   refine aC (ai (aH (rb (rc ae ae qL (re ae (rb (rc ae ae (Nm 1 ak ak) (re ae (yB ⟨[(1,cS .q g),(2,Vo),(7,cS .q q),(8,cS .q (c9 r)),(10,.c (.P 4001000 0))],[(4001000,.box 46 0 (av .q c))],20,[]⟩ ?_ (λje=>rr ae ?_))))))))))
   ·exact rb (CG ae ae (.inl ⟨ae,ae,ae⟩) ae (aqH q c) (re ae (rt ae (a6 (a8 (k',g,c9 r) ⟨h5,h3⟩ (fT k') bY)))))
   ·refine ax ae (λh6=>?_) (λh6=>aC ?_)
    ·have hr:r≠[]:=λe=>by subst e;cases h6
     rw[aq hr]at hc;have hi:=adT af r hr af (vo hr) (JS _);have C7:=(JS (r.length-1)).inv (vo hr);rw[←hc]at hi C7;have OD:=UW h1 af c r af C7 JS;rw[show eo (oz c r)=c9 r by rw[c9,aq hr,hc]]at OD;exact rb (rc ae ae hi (re ae (cK (rc ae ae OD (re ae (nG je (wk ⟨sR ae,sR ae,sR ae,sR ae,sR ae,ah⟩ ⟨bE ae ae,ah⟩)))))))
    ·have hr:r=[]:=by have h6:¬(r.length:Int)>0:=bC h6;exact iu af
     rw[aw hr]at hc;subst hr hc;exact nG je (wk ⟨sR ae,sR ae,sR ae,sR ae,sR ae,ah⟩ ⟨bE ae ae,ah⟩)
 ·have h4:g=[]:=by have h4:¬(g.length:Int)>0:=bC h4;exact iu af
  subst h4;have h3:f=ji k a b:=by
   cases k' with
   |zero=>exact h3
   |succ k'=>rwa[ji,aw ae]at h3
  rw[←h3];exact bh (bt (bq (bp (ai (rr ae (aF (aL ar ae (au.refl _))))))))
def aqK{s:Nat}(h1:1≤s)(hs:s≤100000000)(k:Nat)(a b:List Rat)(h:Dd s k a b)(hg:ji k a b≠[])(hl:(ji k a b).length≤1000)(hn:(ji k a b).getD ((ji k a b).length-1) 0≠0)(hq:∀i,QS s ((ji k a b).getD i 0)):aG Tryz.prog 197 [cS .q a,cS .q b] (cS .q (c9 (ji k a b))):=by refine aX Tryz.func197 ae ae ae ae ae ak ?_;have he:=aqJ h1 hs k a b h;have hm:=adU h1 af _ hg hl hn hq ((hq _).inv hn);rw[show eo (oz ((ji k a b).getD ((ji k a b).length-1) 0)⁻¹ (ji k a b))=c9 (ji k a b)by rw[c9,aq hg]]at hm;exact rr ae (rb (rc ae ae he (rc ae ae hm (re ae (aF (aL ar ae (au.refl _)))))))
abbrev UT:ET:= .pr (.sl .q) dZ
def De(la:Nat):Nat→Nat→List Rat→List Rat→List (List Rat×Int)→List (List Rat×Int)→Prop
 |0,_,_,_,_,_=>False
 |k+1,n,w,y,acc,out=>if 1<w.length∧n<la then∃dw z p w' y',
   aG Tryz.prog 196 [cS .q w] (cS .q dw)∧aG Tryz.prog 202 [cS .q y,cS .q dw] (cS .q z)∧aG Tryz.prog 197 [cS .q w,cS .q z] (cS .q p)∧aG Tryz.prog 198 [cS .q w,cS .q p] (cS .q w')∧aG Tryz.prog 198 [cS .q z,cS .q p] (cS .q y')∧
   De la k (n+1) w' y' (if 1<p.length then acc++[(p,(n:Int))]else acc) out
  else out=acc
set_option maxRecDepth 100000 in
set_option maxHeartbeats 4000000 in
def aqL(a d g ma w sd y:List Rat)(c:Rat)(la:a.length≤500)(hd:aG Tryz.prog 196 [cS .q a] (cS .q d))(hg:aG Tryz.prog 197 [cS .q a,cS .q d] (cS .q g))(mE:aG Tryz.prog 199 [cS .q a] (cS .q ma))(hw:aG Tryz.prog 198 [cS .q ma,cS .q g] (cS .q w))(hc:aG Tryz.prog 201 [cS .q a] (aQ c))(hsd:aG Tryz.prog 200 [aQ c,cS .q d] (cS .q sd))(hy:aG Tryz.prog 198 [cS .q sd,cS .q g] (cS .q y))
  (k:Nat) (out:List (List Rat×Int)) (hR:De a.length k 1 w y [] out):m9 Tryz.prog 134 [cS .q a] 80 UT out:=by
 refine Af Tryz.func134 ae ae ae ae ak ?_
 refine rr ae (rr ae (rb (rc ae ae hd (re ae (rb (rc ae ae hg (re ae ?_)))))))
 refine rb (rc ae ae mE (rc ae ae hw (rc ae ae hc (rc ae ae hsd (rc ae ae hy (re ae ?_))))))
 refine aj (rr ae ?_)
 refine aH (bA (α:=Nat×Nat×List Rat×List Rat×List (List Rat×Int)) (λx=>⟨[(0,cS .q a),(3,.c (.X 6000000)),(6,cS .q x.2.2.1),(7,cS .q x.2.2.2.1),(8,cI x.2.1)],[(6000000,.vec 80 UT x.2.2.2.2)],7,[]⟩) (λx=>De a.length x.1 x.2.1 x.2.2.1 x.2.2.2.1 x.2.2.2.2 out∧x.2.2.2.2.length<x.2.1∧x.2.1≤a.length+1) (λx=>x.1) (k,1,w,y,[]) ⟨hR,Nat.zero_lt_one,Nat.le_add_left _ _⟩ ?_ ?_)
 ·exact tv 6000000 80 UT ⟨.inl (sR ae),.inr ⟨ae,ae⟩,.inl (sR ae),.inl (sR ae),.inl (sR ae),ah⟩ ah ae (eQ.of ae)
 rintro⟨k,n,w,y,acc⟩ ⟨h1,h2,h3⟩
 simp only at h1 h2 h3
 cases k with
 |zero=>exact absurd h1 (λh=>h)
 |succ k=>
  rw[De]at h1
  have ae3:¬(1<w.length∧n<a.length)→out=acc:=λe=>by rwa[aq e]at h1
  refine aj (rb (rg 29 ae ae (λe1=>re ae (ax ae (λe2=>?_) (λe2=>?_))) (λe1=>re ae (ax ae (λe2=>by cases e2) (λ_=>?_)))))
  ·have e1:1<w.length:=by have e1:(w.length:Int)>1:=a9 e1;omega
   have e2:n<a.length:=by have e2:(n:Int)<(a.length:Int):=a9 e2;omega
   rw[aw ⟨e1,e2⟩]at h1;obtain⟨dw,z,p,w',y',c1,c2,c3,c4,c5,h1⟩:=h1;refine aC (ai (aj (aH (rb (rc ae ae c1 (rc ae ae c2 (re ae (rb (rc ae ae c3 (re ae (yB ⟨[(0,cS .q a),(3,.c (.X 6000000)),(6,cS .q w),(8,cI n),(9,cS .q z),(10,cS .q p)],[(6000000,.vec 80 UT (if 1<p.length then acc++[(p,(n:Int))]else acc))],30,[]⟩ ?_ (λje=>rr ae (ax ae (λe3=>?_) (λe3=>aC ?_))))))))))))))
   ·refine cK (rc ae ae c4 (rc ae ae c5 (re ae (a6 (ai (rt ae (hp:=aN) (a8 (k,n+1,w',y',if 1<p.length then acc++[(p,(n:Int))]else acc) ⟨h1,?_,by show n+1≤_;omega⟩ (fT k) bY)))))));show(if 1<p.length then acc++[(p,(n:Int))]else acc).length<n+1;split
    ·rw[kA];show acc.length+1<_;omega
    ·omega
   ·have e3:1<p.length:=by have e3:(p.length:Int)>1:=a9 e3;omega
    rw[aw e3]at je;refine cK (rl UT [(p,(n:Int))] ae ae (ra ae ae ae ae ae ae ae ae ae ?_ ?_ (re ae ?_)))
    ·show(acc.length+1+(acc.length+1)/4+192)*32≤_;omega
    ·show(acc.length+1)*2≤_;omega
    ·exact nG je (Wk.trans (wk (st':=⟨[(0,cS .q a),(3,.c (.X 11005000)),(6,cS .q w),(8,cI n),(9,cS .q z),(10,cS .q p)],[(11005000,.vec 80 UT (acc++[(p,(n:Int))]))],12,[]⟩) ⟨sR ae,sR ae,sR ae,sR ae,sR ae,sR ae,ah⟩ ⟨bR ae,ah⟩) (Wk.trans (qI 6000000 11005000 ae ae ae) bY))
   ·have e3:¬1<p.length:=by have e3:¬(p.length:Int)>1:=bC e3;omega
    rw[aq e3]at je;exact nG je bY
  ·have e2:¬n<a.length:=by have e2:¬(n:Int)<(a.length:Int):=bC e2;omega
   rw[ae3 (λh=>e2 h.2)];exact bh (bt (bq (bp (ai (rr ae (aF (yu (id:=6000000) ar ae ae)))))))
  ·have e1:¬1<w.length:=by have e1:¬(w.length:Int)>1:=bC e1;omega
   rw[ae3 (λh=>e1 h.1)];exact bh (bt (bq (bp (ai (rr ae (aF (yu (id:=6000000) ar ae ae)))))))
end Go.El
namespace Go.El
namespace Rx
def Vp(l:List Rat):∀n,iS l n≤n∧(∀i,iS l n≤i→i<n→l.getD i 0=0)∧(iS l n=0∨l.getD (iS l n-1) 0≠0)
 |0=>⟨bD _,λi _ h=>absurd h af,.inl ae⟩
 |n+1=>by
  rw[iS];split
  ·rename_i h;obtain⟨h1,h2,h3⟩:=Vp l n;refine⟨by omega,λi hi hn=>?_,h3⟩;by_cases e:i=n
   ·subst e;exact Rat.num_eq_zero.1 h
   ·exact h2 i hi af
  ·rename_i h;exact⟨bD _,λi h1 h2=>absurd h2 af,.inr λe=>h (by rw[iY]at e;rw[e];rfl)⟩
def Vq(a:List Rat)(n i:Nat):(a.take n).getD i 0=if i<n then a.getD i 0 else 0:=by
 rw[aU,Pp];split
 ·rw[aU]
 ·rfl
def ae4{l:List Rat}{n:Nat}(h:∀i,n≤i→l.getD i 0=0):lx (l.take n)=lx l:=ext λi=>by
 rw[mR,mR,Vq];split
 ·rfl
 ·exact(h i af).symm
def wg(l:List Rat):lx (eo l)=lx l:=ae4 λi hi=>by
 by_cases e:i<l.length
 ·exact(Vp l l.length).2.1 i hi e
 ·exact kY l af
def zd(l:List Rat):cO (eo l):=by
 obtain⟨h1,h2,h3⟩:=Vp l l.length;have hl:(eo l).length=iS l l.length:=Ww;rcases h3 with h3|h3
 ·exact .inl (iu af)
 ·by_cases e:iS l l.length=0
  ·exact .inl (iu af)
  ·right;rw[hl];unfold eo;rw[Vq,aw af];exact h3
def cO.ne{a:List Rat}(h:cO a)(h0:a≠[]):a.getD (a.length-1) 0≠0:=h.resolve_left h0
def Df{a:List Rat}(h:cO a)(h0:a≠[]):lx a≠0:=λe=>h0 (Jb h Ja (e.trans xC.symm))
def ae5(c:Rat)(a:List Rat):lx (oz c a)=K c*lx a:=ext λi=>by rw[iE];exact adS c a i
def ae6(a:List Rat):lx (nl a)=bG (lx a):=ext λi=>by
 rw[sn,mR,mR];by_cases h:i<a.length-1
 ·rw[adW h];rfl
 ·rw[kY (nl a) (by rw[adV];omega),kY a af,jA]
def OE{r b:List Rat}(c:Rat){k:Nat}(h:k+b.length≤r.length):lx (ow r c b k)=lx r+K c*(X k*lx b):=ext λi=>by
 rw[fP,iE,qP,mR,mR];by_cases hi:i<r.length
 ·rw[show(ow r c b k).getD i 0=_ from y9 hi];by_cases e:k≤i∧i<k+b.length
  ·rw[aw e,aw e.1];rfl
  ·rw[aq e];split
   ·rw[mR,kY b af,jA,rF]
   ·rw[jA,rF]
 ·rw[kY (ow r c b k) (by rw[ow,pf];omega),kY r af];split
  ·rw[mR,kY b af,jA,rF]
  ·rw[jA,rF]
def aqN(a:List Rat)(c:Rat)(b:List Rat):lx (uK a c b)=lx a+K c*lx b:=by unfold uK;rw[OE c (by rw[Oa af];omega),amT,one_mul];congr 1;exact ext λi=>adX a _ i
def aqO{l:List Rat}{k:Nat}(t:Rat)(h:k<l.length)(h0:l.getD k 0=0):lx (l.set k t)=lx l+K t*X k:=ext λi=>by
 rw[fP,iE,I9,mR,mR,Jz i t h];by_cases e:k=i
 ·subst e;rw[aw ae,aw ae,h0];grind
 ·rw[aq e,aq (λh=>e h.symm)];grind
def Vr{a b:List Rat}{n m:Nat}(hn:b.length=n+1)(hm:a.length=n+m)(hb:b.getD n 0≠0):∀j,j≤m→
  lx a=lx (gK (b.getD n 0)⁻¹ a b n m j).1*lx b+lx (gK (b.getD n 0)⁻¹ a b n m j).2∧(∀i,i<m-j→(gK (b.getD n 0)⁻¹ a b n m j).1.getD i 0=0)∧(∀i,n+(m-j)≤i→(gK (b.getD n 0)⁻¹ a b n m j).2.getD i 0=0)
 |0,_=>by have hz:∀i,(List.replicate m (0:Rat)).getD i 0=0:=N9 m;refine⟨?_,λi _=>hz i,λi hi=>kY a af⟩;show lx a=lx (List.replicate m 0)*lx b+lx a;rw[show lx (List.replicate m (0:Rat))=0 from ext hz,zero_mul,zero_add]
 |j+1,hj=>by
  obtain⟨h1,h2,h3⟩:=Vr hn hm hb j af;obtain⟨l1,l2⟩:=JA (b.getD n 0)⁻¹ a b n m j;rw[gK];generalize gK (b.getD n 0)⁻¹ a b n m j=x at*;obtain⟨q,r⟩:=x;simp only at h1 h2 h3 l1 l2⊢;refine⟨?_,λi hi=>?_,λi hi=>?_⟩
  ·rw[aqO _ af (h2 _ af),OE _ af,h1,add_mul,AE,neg_mul,mul_assoc (K _) (X _)];generalize K (r.getD (m-1-j+n) 0*(b.getD n 0)⁻¹)*(X (m-1-j)*lx b)=u;rw[add_assoc,←add_assoc u,add_comm u,add_assoc (lx r),add_neg,add_zero]
  ·rw[Jz i _ af,aq af,h2 i af]
  ·have:=ay (λA:Rx=>A i) (OE (r:=r) (b:=b) (-(r.getD (m-1-j+n) 0*(b.getD n 0)⁻¹)) (k:=m-1-j) af);simp only[fP,iE,qP,mR]at this;rw[this,aw af];by_cases e:i=m-1-j+n
   ·subst e;rw[show m-1-j+n-(m-1-j)=n by omega];have h4:=oJ _ hb;grind
   ·rw[h3 i af,kY b (i:=i-(m-1-j)) af];grind
def ik(a b:List Rat):List Rat:=if a.length<b.length then[]else eo (gK (b.getD (b.length-1) 0)⁻¹ a b (b.length-1) (a.length+1-b.length) (a.length+1-b.length)).1
def F9(a b:List Rat):cO (ik a b):=by
 unfold ik;split
 ·exact Ja
 ·exact zd _
def ae7(a b:List Rat):(ik a b).length≤a.length+1-b.length:=by
 unfold ik;split
 ·exact bK _
 ·refine dF (OB _) ?_;rw[(JA ..).1];exact bD _
def ae8{a b:List Rat}(hb:cO b)(eB:b≠[]):lx a=lx (ik a b)*lx b+lx (j7 a b):=by
 have hl:=cZ.2 eB;unfold ik j7;by_cases h:a.length<b.length
 ·rw[aw h,aw h,xC,zero_mul,zero_add]
 ·rw[aq h,aq h,wg,wg];obtain⟨h1,_,h3⟩:=Vr (a:=a) (b:=b) (n:=b.length-1) (m:=a.length+1-b.length) af af (hb.ne eB) _ (bD _);rw[ae4 (λi hi=>h3 i af)];exact h1
def Vs{a b:List Rat}(ha:cO a):cO (j7 a b):=by
 unfold j7;split
 ·exact ha
 ·exact zd _
def AJ{a b:List Rat}(ha:cO a)(hb:cO b)(eB:b≠[])(h:lx b∣lx a):lx a=lx (ik a b)*lx b:=by
 have h1:=ae8 (a:=a) hb eB;have h2:lx (j7 a b)=0:=by
  refine vK (A:=lx b) ?_ ?_
  ·rw[h1]at h;exact xk h (dvd_mul_left _ _)
  ·rw[dK (Vs ha),dK hb];exact OC eB
 rw[h2,add_zero]at h1;exact h1
def uN(r:List Rat):cO (c9 r):=by
 unfold c9;split
 ·exact Ja
 ·exact zd _
def Dg{r:List Rat}(h0:r≠[]):lx (c9 r)=K (r.getD (r.length-1) 0)⁻¹ *lx r:=by rw[c9,aq h0,wg,ae5]
def OF:c9 []=[]:=aw ae
def tJ{c:Rat}(h:c≠0):c⁻¹ ≠0:=λe=>by have:=oJ _ h;rw[e,u6]at this;exact absurd this ak
def A9{r:List Rat}(h:cO r)(h0:r≠[]):Mo (lx (c9 r)):=by have hl:=cZ.2 h0;have h1:=eH (tq (tJ (h.ne h0))) (Df h h0);rw[ts (tJ (h.ne h0)),dK h]at h1;rw[Dg h0,Mo,iE,show sz (K (r.getD (r.length-1) 0)⁻¹ *lx r)-1=r.length-1 by omega,mR,oJ _ (h.ne h0)]
def JT{r:List Rat}(h:cO r):(c9 r).length=r.length:=by
 by_cases h0:r=[]
 ·subst h0;rw[OF]
 ·have h1:=eH (tq (tJ (h.ne h0))) (Df h h0);rw[ts (tJ (h.ne h0)),dK h,←Dg h0,dK (uN r)]at h1;omega
def wh(r:List Rat):lx r∣lx (c9 r)∧(cO r→lx (c9 r)∣lx r):=by
 by_cases h0:r=[]
 ·subst h0;rw[OF];exact⟨dvd_refl _,λ_=>dvd_refl _⟩
 ·rw[Dg h0];refine⟨dvd_mul_left _ _,λh=>⟨K (r.getD (r.length-1) 0),?_⟩⟩;rw[←mul_assoc,mul_comm (K _) (K _),pT (h.ne h0),one_mul]
def Vt:∀(k:Nat)(a b:List Rat),cO a→cO b→b.length<k→cO (ji k a b)∧lx (ji k a b)∣lx a∧lx (ji k a b)∣lx b∧∃U V,lx (ji k a b)=U*lx a+V*lx b
 |0,_,_,_,_,h=>by omega
 |k+1,a,b,ha,hb,h=>by
  rw[ji];split
  ·rename_i e;subst e;exact⟨ha,dvd_refl _,by rw[xC];exact dvd_zero _,1,0,by rw[one_mul,zero_mul,add_zero]⟩
  ·rename_i e;have hl:=OC (a:=a) e;have hr:=Vs (b:=b) ha;have e1:=ae8 (a:=a) hb e;obtain⟨i1,i2,i3,U,V,i4⟩:=Vt k b (c9 (j7 a b)) hb (uN _) (by rw[JT hr];omega);obtain⟨d1,d2⟩:=wh (j7 a b);obtain⟨w,hw⟩:=d1;have i5:=dvd_trans i3 (d2 hr);refine⟨i1,by rw[e1];exact dvd_add (fl i2 _) i5,i2,V*w,U-V*w*lx (ik a b),?_⟩;rw[i4,hw,e1,mul_add,sub_mul];have:V*w*(lx (ik a b)*lx b)+V*w*lx (j7 a b)+(U*lx b-V*w*lx (ik a b)*lx b)=(U*lx b-V*w*lx (ik a b)*lx b+V*w*lx (ik a b)*lx b)+V*(w*lx (j7 a b)):=kN;rw[this,l6]
def aqP{k:Nat}{a b:List Rat}(ha:cO a)(hb:cO b)(hk:b.length<k)(h0:a≠[]):ji k a b≠[]∧cO (c9 (ji k a b))∧Jd (lx (c9 (ji k a b))) (lx a) (lx b):=by
 obtain⟨h1,h2,h3,U,V,h4⟩:=Vt k a b ha hb hk;have aR:ji k a b≠[]:=λe=>by rw[e,xC]at h2;obtain⟨w,hw⟩:=h2;rw[mul_zero]at hw;exact Df ha h0 hw
 obtain⟨d1,d2⟩:=wh (ji k a b);obtain⟨w,hw⟩:=d1;refine⟨aR,uN _,A9 h1 aR,dvd_trans (d2 h1) h2,dvd_trans (d2 h1) h3,w*U,w*V,?_⟩;rw[hw,h4,mul_add,mul_assoc,mul_assoc]
end Rx
namespace Rx
def ze(M:Nat)(D:Int)(A:Rx):Prop:=∀i,∃z:Int,z.natAbs≤M∧(D:Rat)*A i=(z:Rat)
def Ht(M:Nat)(A:Rx):Prop:=∃D:Int,D≠0∧D.natAbs≤M∧ze M D A
def Vu{D:Int}(h:D≠0):(D:Rat)≠0:=λe=>h (WC.1 e)
def ze.le{M N:Nat}{D:Int}{A:Rx}(h:ze M D A)(k:M≤N):ze N D A:=λi=>by obtain⟨z,h1,h2⟩:=h i;exact⟨z,dF h1 k,h2⟩
def Ht.le{M N:Nat}{A:Rx}(h:Ht M A)(k:M≤N):Ht N A:=by obtain⟨D,h1,h2,h3⟩:=h;exact⟨D,h1,dF h2 k,h3.le k⟩
def Ht.zero{M:Nat}(h:1≤M):Ht M 0:=⟨1,by decide,h,λ_=>⟨0,bK _,jA _⟩⟩
def Ht.qs{M s:Nat}{A:Rx}(h:Ht M A)(hs:M<4294967296^s)(i:Nat):QS s (A i):=by
 obtain⟨D,h1,h2,h3⟩:=h;obtain⟨z,h4,h5⟩:=h3 i;have key:∀(D z:Int),0<D→D.natAbs≤M→z.natAbs≤M→(D:Rat)*A i=(z:Rat)→QS s (A i):=by
  intro D z h0 h2 h4 h5;have e:Rat.divInt z D=A i:=by have h6:=oJ _ (Vu (show D≠0 by omega));rw[WV,Rat.div_def,←h5];grind
  rw[←e];exact I7 h0 (show z.natAbs<4294967296^s by omega) (show D.natAbs<4294967296^s by omega)
 rcases Int.lt_trichotomy D 0 with e|e|e
 ·exact key (-D) (-z) af af af (by rw[PC,PC,←h5];grind)
 ·exact absurd e h1
 ·exact key D z e h2 h4 h5
def zf{a b:Int}{M N:Nat}(h:a.natAbs≤M)(k:b.natAbs≤N):(a*b).natAbs≤M*N:=by rw[uZ];exact my h k
def Ht.sub{M N:Nat}{A B:Rx}(h:Ht M A)(k:Ht N B):Ht (2*(M*N)) (A-B):=by
 obtain⟨D,h1,h2,h3⟩:=h;obtain⟨E,k1,k2,k3⟩:=k;refine⟨D*E,Py h1 k1,by have:=zf h2 k2;omega,λi=>?_⟩;obtain⟨z,h4,h5⟩:=h3 i;obtain⟨w,k4,k5⟩:=k3 i;refine⟨z*E-D*w,?_,?_⟩
 ·have e1:=zf h4 k2;have e2:=zf h2 k4;omega
 ·rw[EU,jz,PA,jz,jz,←h5,←k5];grind
def Ht.bG{M n:Nat}{A:Rx}(h:Ht M A)(hn:sz A≤n)(h1n:1≤n):Ht (n*M) (bG A):=by
 obtain⟨D,h1,h2,h3⟩:=h;refine⟨D,h1,by have:=my h1n h2;omega,λi=>?_⟩;by_cases hi:n≤i+1
 ·exact⟨0,bK _,by rw[sn,oq af,jA,jA];rfl⟩
 ·obtain⟨z,h4,h5⟩:=h3 (i+1);refine⟨((i+1:Nat):Int)*z,zf af h4,?_⟩;rw[sn,jz,←h5,uU];grind
def Ht.aqR{M k:Nat}{A:Rx}(h:Ht M A)(hk:A k≠0):Ht M (K (A k)⁻¹ *A):=by
 obtain⟨D,h1,h2,h3⟩:=h;obtain⟨w,h4,h5⟩:=h3 k;have hw:w≠0:=λe=>by
  subst e;rcases DJ.1 (h5.trans KD)with e|e
  ·exact Vu h1 e
  ·exact hk e
 refine⟨w,hw,h4,λi=>?_⟩;obtain⟨z,h6,h7⟩:=h3 i;refine⟨z,h6,?_⟩;have h8:=oJ _ hk;rw[iE,←h5,←h7];grind
def ae9{a b:List Rat}{n m M N:Nat}(hn:b.length=n+1)(hm:a.length=n+m)(hb:b.getD n 0≠0)(ha:Ht M (lx a))(hN:Ht N (lx b)):∀j,j≤m→
  ∃D:Int,D≠0∧D.natAbs≤M*(2*N)^j∧ze (M*(2*N)^j) D (lx (gK (b.getD n 0)⁻¹ a b n m j).1)∧ze (M*(2*N)^j) D (lx (gK (b.getD n 0)⁻¹ a b n m j).2)
 |0,_=>by obtain⟨D,h1,h2,h3⟩:=ha;rw[xY,k9];refine⟨D,h1,h2,λi=>⟨0,bK _,?_⟩,h3⟩;show(D:Rat)*(List.replicate m (0:Rat)).getD i 0=_;rw[N9,jA];rfl
 |j+1,hj=>by
  obtain⟨D,d1,d2,d3,d4⟩:=ae9 hn hm hb ha hN j af;obtain⟨E,k1,k2,k3⟩:=hN;obtain⟨β,b1,b2⟩:=k3 n;obtain⟨_,q0,_⟩:=Vr hn hm hb j af;obtain⟨l1,l2⟩:=JA (b.getD n 0)⁻¹ a b n m j;have hβ:β≠0:=λe=>by
   subst e;rcases DJ.1 (b2.trans KD)with e|e
   ·exact Vu k1 e
   ·exact hb e
  have uB:(β:Rat)*(b.getD n 0)⁻¹ =(E:Rat):=by have h8:=oJ _ hb;have b2:(E:Rat)*b.getD n 0=(β:Rat):=b2;rw[←b2];grind
  rw[gK,jl,←zC];generalize gK (b.getD n 0)⁻¹ a b n m j=x at*;generalize M*(2*N)^j=X at*;obtain⟨q,r⟩:=x;simp only at d3 d4 q0 l1 l2⊢;obtain⟨t,t1,t2⟩:=d4 (m-1-j+n);have t2:(D:Rat)*r.getD (m-1-j+n) 0=(t:Rat):=t2;have Vv:X*N≤X*(2*N):=lJ X af;have le2:X*(2*N)=X*N+X*N:=by rw[Nat.two_mul,DN]
  refine⟨D*β,Py d1 hβ,dF (zf d2 b1) Vv,λi=>?_,λi=>?_⟩
  ·rw[mR,Jz i _ af];by_cases e:m-1-j=i
   ·rw[aw e];refine⟨t*E,dF (zf t1 k2) Vv,?_⟩;rw[jz,jz,←t2,←uB];grind
   ·rw[aq e];obtain⟨z,z1,z2⟩:=d3 i;have z2:(D:Rat)*q.getD i 0=(z:Rat):=z2;refine⟨z*β,dF (zf z1 b1) Vv,?_⟩;rw[jz,jz,←z2];grind
  ·rw[OE _ af,fP,iE,qP];obtain⟨z,z1,z2⟩:=d4 i;have e1:=zf z1 b1;by_cases e:m-1-j≤i
   ·rw[aw e];obtain⟨w,w1,w2⟩:=k3 (i-(m-1-j));have e2:=zf t1 w1;refine⟨z*β-t*w,by omega,?_⟩;rw[PA,jz,jz,jz,←z2,←w2,←t2,←uB];grind
   ·rw[aq e];refine⟨z*β,by omega,?_⟩;rw[jz,jz,←z2];grind
def ze.take{M:Nat}{D:Int}{a:List Rat}(h:ze M D (lx a))(n:Nat):ze M D (lx (a.take n)):=λi=>by
 rw[mR,Vq];split
 ·exact h i
 ·exact⟨0,bK _,jA _⟩
def OG{a b:List Rat}{t u:Nat}(hb:cO b)(eB:b≠[])(ha:Ht (2^t) (lx a))(hN:Ht (2^u) (lx b)):Ht (2^(t+(u+1)*(a.length+1-b.length))) (lx (ik a b))∧Ht (2^(t+(u+1)*(a.length+1-b.length))) (lx (j7 a b))∧
  (b.length≤a.length→∀j,j≤a.length+1-b.length→Ht (2^(t+(u+1)*(a.length+1-b.length))) (lx (gK (b.getD (b.length-1) 0)⁻¹ a b (b.length-1) (a.length+1-b.length) j).2)):=by
 have hl:=cZ.2 eB
 unfold ik j7
 by_cases h:a.length<b.length
 ·rw[aw h,aw h];refine⟨Ht.zero (nr ak),ha.le (jV ak (Nat.le_add_right _ _)),λh'=>absurd h af⟩
 ·rw[aq h,aq h,wg,wg];have key:=ae9 (a:=a) (b:=b) (n:=b.length-1) (m:=a.length+1-b.length) af af (hb.ne eB) ha hN;have ep:∀j,2^t*(2*2^u)^j=2^(t+(u+1)*j):=λj=>by rw[show 2*2^u=2^(u+1)by rw[jl,ix],←zH,←py]
  obtain⟨D,d1,d2,d3,d4⟩:=key _ (bD _);rw[ep]at d2 d3 d4;refine⟨⟨D,d1,d2,d3⟩,⟨D,d1,d2,d4.take _⟩,λ_ j hj=>?_⟩;obtain⟨D,d1,d2,d3,d4⟩:=key j hj;rw[ep]at d2 d3 d4;exact Ht.le ⟨D,d1,d2,d4⟩ (jV ak (Nat.add_le_add_left (lJ _ hj) _))
def aqS{r:List Rat}{M:Nat}(h:cO r)(k:Ht M (lx r)):Ht M (lx (c9 r)):=by
 by_cases h0:r=[]
 ·subst h0;rw[OF];exact k
 ·rw[Dg h0];exact k.aqR (k:=r.length-1) (h.ne h0)
def JU(n:Nat){k:Nat}(h:k≤n):2^k≤2^n:=jV ak h
def ry{t s:Nat}(h:t<32*s):2^t<4294967296^s:=by rw[show(4294967296:Nat)=2^32 by decide,←zH];exact Nat.pow_lt_pow_right ak h
def three{d:Nat}:1≤d→d+2≤3^d:=by
 intro h;induction d with
 |zero=>omega
 |succ d ih=>
  by_cases e:d=0
  ·subst e;decide
  ·have:=ih af;rw[jl];omega
def ae'{a b:List Rat}(hb:b≠[]):(c9 (j7 a b)).length<b.length∨c9 (j7 a b)=[]:=by
 by_cases h:j7 a b=[]
 ·right;rw[h,OF]
 ·left;have:=OC (a:=a) hb;unfold c9;rw[aq h];refine zy (OB _) ?_;rw[oz,dM];exact this
def afa{s:Nat}:∀(k t:Nat)(a b:List Rat),cO a→cO b→b.length<k→(b=[]∨b.length<a.length)→a.length≤500→Ht (2^t) (lx a)→Ht (2^t) (lx b)→(t+1)*3^a.length≤32*s→
  Dd s k a b∧(∀i,QS s ((ji k a b).getD i 0))∧(ji k a b).length≤500
 |0,_,_,_,_,_,h,_,_,_,_,_=>by omega
 |k+1,t,a,b,ha,hb,hk,br,la,hA,hB,hs=>by
  have p3:0<3^a.length:=nr ak;have ht:t<32*s:=by have:=lJ (t+1) (show 1≤3^a.length from p3);omega
  rw[Dd,ji];split
  ·rename_i e;exact⟨.inl e,λi=>hA.qs (ry ht) i,la⟩
  ·rename_i e;have br:=br.resolve_left e;have hl:=cZ.2 e;obtain⟨q1,q2,q3⟩:=OG hb e hA hB;have e3:t+(t+1)*(a.length+1-b.length)+1=(t+1)*(a.length-b.length+2):=by rw[show a.length+1-b.length=a.length-b.length+1 by omega,show a.length-b.length+2=a.length-b.length+1+1 by omega,DN (t+1) (a.length-b.length+1) 1];omega
   have e4:(t+1)*(a.length-b.length+2)*3^b.length≤(t+1)*3^a.length:=by have:=three (d:=a.length-b.length) af;rw[zC];refine lJ _ ?_;refine dF (eJ _ this) ?_;rw[←py,show a.length-b.length+b.length=a.length by omega];exact bD _
   have hr:=Vs (b:=b) ha;have p4:0<3^b.length:=nr ak;have vQ:t+(t+1)*(a.length+1-b.length)<32*s:=by have:=lJ ((t+1)*(a.length-b.length+2)) (show 1≤3^b.length from p4);omega
   obtain⟨i1,i2,i3⟩:=afa (s:=s) k (t+(t+1)*(a.length+1-b.length)) b (c9 (j7 a b)) hb (uN _) (by rcases ae' (a:=a) e with h|h;omega;rw[h,mr];omega) ((ae' (a:=a) e).symm) af
    (hB.le (jV ak (Nat.le_add_right _ _))) (aqS hr q2) (by rw[e3];omega)
   refine⟨.inr ⟨⟨la,by omega,hb.ne e,λi=>hB.qs (ry ht) i,λj hj i=>(q3 af j hj).qs (ry vQ) i,λh=>hr.ne h,λi=>q2.qs (ry vQ) i⟩,i1⟩,i2,i3⟩
end Rx
end Go.El
namespace Go.El
open Go Go.Proofs
open Rx
def OH{s t u:Nat}(hs:s≤100000000){a b:List Rat}(hb:cO b)(eB:b≠[])(la:a.length≤500)(lb:b.length≤500)(hA:Ht (2^t) (lx a))(hB:Ht (2^u) (lx b))(h:t+(u+1)*(a.length+1-b.length)<32*s)(hu:u<32*s):aG Tryz.prog 198 [cS .q a,cS .q b] (cS .q (ik a b)):=by
 have hl:=cZ.2 eB;by_cases br:a.length<b.length
 ·rw[ik,aw br];exact ao4 a b br af
 ·obtain⟨_,_,q3⟩:=OG hb eB hA hB;rw[ik,aq br];exact ao5 (s:=s) af hs a b (b.length-1) (a.length+1-b.length) af af af af (hb.ne eB) (λi=>hB.qs (ry hu) i) (λj hj i=>(q3 af j hj).qs (ry h) i)
def afb{s t:Nat}(hs:s≤100000000){a b:List Rat}(ha:cO a)(hb:cO b)(h0:a≠[])(br:b=[]∨b.length<a.length)(la:a.length≤500)(hA:Ht (2^t) (lx a))(hB:Ht (2^t) (lx b))(h:(t+1)*3^a.length≤32*s):∃g,aG Tryz.prog 197 [cS .q a,cS .q b] (cS .q g)∧cO g∧Jd (lx g) (lx a) (lx b):=by
 obtain⟨e1,e2,e3⟩:=afa (s:=s) (b.length+1) t a b ha hb af br la hA hB h;obtain⟨g1,g2,g3⟩:=aqP (k:=b.length+1) ha hb af h0;have hq:cO (ji (b.length+1) a b):=(Vt (b.length+1) a b ha hb af).1;have p3:0<3^a.length:=nr ak;have F7:1≤s:=by have:=my (show 1≤t+1 by omega) (show 1≤3^a.length from p3);omega
 exact⟨_,aqK F7 hs (b.length+1) a b e1 g1 af (hq.ne g1) e2,g2,g3⟩
def afc{s t:Nat}(hs:s≤100000000){a:List Rat}(la:a.length≤500)(hA:Ht (2^t) (lx a))(h:t<32*s):aG Tryz.prog 196 [cS .q a] (cS .q (eo (nl a))):=aoX (s:=s) af af a af (λi=>hA.qs (ry h) i)
def aqT{s t:Nat}(hs:s≤100000000){a b:List Rat}(la:a.length≤500)(lb:b.length≤500)(aR:0<max a.length b.length)(hA:Ht (2^t) (lx a))(hB:Ht (2^t) (lx b))(h:t<32*s):aG Tryz.prog 202 [cS .q a,cS .q b] (cS .q (eo (uK a (-1) b))):=aoZ (s:=s) af af a b af af aR (λi=>hA.qs (ry h) i) (λi=>hB.qs (ry h) i)
def aqU(a b:List Rat):lx (eo (uK a (-1) b))=lx a-lx b:=by rw[wg,aqN,AE,l7,neg_mul,one_mul,sub_def]
noncomputable def ph(L:List (Rx×Nat)):Nat→Nat→List (Rx×Int)
 |0,_=>[]
 |k+1,n=>(if 1<sz (pF (kP n) L)then[(pF (kP n) L,(n:Int))]else[])++ph L k (n+1)
def afd{L:List (Rx×Nat)}:∀(k:Nat){n:Nat},(∀x∈L,x.2<n)→ph L k n=[]
 |0,_,_=>rfl
 |k+1,n,h=>by
  have e:pF (kP n) L=1:=Ua λx hx=>aq (by have:=h x hx;omega)
  rw[ph,e,oY,aq af,afd k (λx hx=>by have:=h x hx;omega),kB]
def OI{A:Rx}(h:2≤sz A):∀n,n+1≤sz (pk A n)
 |0=>by rw[show pk A 0=1 from ae,oY];omega
 |n+1=>by
  have hA:A≠0:=λe=>by rw[e,kJ]at h;omega
  have ih:=OI h n;have h1:pk A n≠0:=λe=>by rw[e,kJ]at ih;omega
  have:=eH h1 hA;rw[pk];omega
def afe{c:Nat→Nat}:∀{L:List (Rx×Nat)}{x:Rx×Nat},x∈L→pk x.1 (c x.2)∣pF c L
 |y::L,x,h=>by
  rw[pF];rcases dC.1 h with rfl|h
  ·exact dvd_mul_right _ _
  ·exact fl (afe h) _
def aff{L:List (Rx×Nat)}(h:FL L){x:Rx×Nat}(hx:x∈L):x.2<sz (pF id L):=by have h1:=j3 (afe (c:=id) hx) (vU h.mo).ne;have h2:=OI (h.ig x hx).1 x.2;have h3:sz (pk x.1 x.2)≤sz (pF id L):=h1;omega
def afg{s t la:Nat}(hs:s=100000000)(ht:t≤1500)(EG:la≤9){L:List (Rx×Nat)}(hL:FL L)(hF:sz (pF id L)=la)(hD:∀D,Mo D→D∣pF id L→Ht (2^t) D):
  ∀(k n:Nat)(w y:List Rat)(acc:List (List Rat×Int)),n+k=la+1→1≤k→1≤n→cO w→cO y→lx w=pF (kW n) L→Yp L n (lx y)→Ht (2^((11*t+15)*n)) (lx y)→y.length<w.length→
  ∃xJ,De la k n w y acc (acc++xJ)∧xJ.map (λp=>(lx p.1,p.2))=ph L k n∧∀p∈xJ,cO p.1
 |0,_,_,_,_,_,h,_,_,_,_,_,_,_=>by omega
 |k+1,n,w,y,acc,hnk,_,hn,hw,hy,ew,hYp,Vw,br=>by
  have mW:Mo (pF (kW n) L):=vU hL.mo;have dW:pF (kW n) L∣pF id L:=by
   refine⟨pF (λm=>m-kW n m) L,?_⟩;rw[←FM];refine CQ λx hx=>?_
   have:=hL.pos x hx;show x.2=x.2-kW n x.2+kW n x.2;unfold kW;split<;>omega
  have lw:w.length≤la:=by have:=j3 dW (vU hL.mo).ne;rw[←ew,dK hw,hF]at this;exact this
  have w0:w≠[]:=λe=>by subst e;simp at br
  have tw:Ht (2^t) (lx w):=by rw[ew];exact hD _ mW dW
  by_cases hc:1<w.length∧n<la
  ·have KU:(11*t+15)*n≤(11*t+15)*8:=lJ _ af;have tw':Ht (2^(t+4)) (bG (lx w)):=(tw.bG (n:=9) (by rw[dK hw];omega) af).le (by rw[py,ix];exact lJ _ ak);obtain⟨dw,Vx⟩:∃dw,dw=eo (nl w):=⟨_,ae⟩;have JV:lx dw=bG (lx w):=by rw[Vx,wg,ae6]
   have Vy:cO dw:=by rw[Vx];exact zd _
   have c1:aG Tryz.prog 196 [cS .q w] (cS .q dw):=by rw[Vx];exact afc (s:=s) (t:=t) af af tw af
   have ldw:dw.length<w.length:=by have:=Iw (Q:=lx w);rw[←JV,dK Vy,dK hw]at this;omega
   have at1:1≤dw.length:=by have:=eP (acg (Q:=lx w) (by rw[dK hw];omega));rw[←JV,dK Vy]at this;omega
   obtain⟨u,eu⟩:∃u,u=(11*t+15)*n:=⟨_,ae⟩;rw[←eu]at Vw KU;have e11:(11*t+15)*(n+1)=u+(11*t+15):=by rw[eu,GK]
   have lift:∀{a b:Nat}{A:Rx},Ht (2^a) A→a≤b→Ht (2^b) A:=λh kQ=>h.le (jV ak kQ)
   have c2:=aqT (s:=s) (t:=u+t+4) (a:=y) (b:=dw) af af af af (lift Vw af) (by rw[JV];exact lift tw' af) af;have ez:=aqU y dw;have qz:=zd (uK y (-1) dw);generalize eo (uK y (-1) dw)=z at c2 ez qz;rw[JV]at ez;have tz:Ht (2^(u+t+5)) (lx z):=by rw[ez];refine(Vw.sub tw').le (PK ?_);rw[←py,ix,←jl,show(u+(t+4)).succ=u+t+5 by omega]
   have lz:z.length<w.length:=by have:=Iq (lx y) (bG (lx w));rw[←ez,←JV,dK qz,dK hy,dK Vy]at this;omega
   have Vz:3^w.length≤19683:=dF (jV ak (show w.length≤9 by omega)) ak;have hb9:(u+t+5+1)*3^w.length≤32*s:=by refine dF (lJ _ Vz) ?_;omega
   obtain⟨p,c3,qp,gp⟩:=afb (s:=s) (t:=u+t+5) (a:=w) (b:=z) af hw qz w0 (.inr lz) af (lift tw af) tz hb9;have gp':=gp;rw[ez,ew]at gp';obtain⟨ep,y2,ey2,hY2⟩:=amX hL hYp gp';have mP:=gp.mo;have p0:p≠[]:=λe=>by rw[e,xC]at mP;exact mP.ne ae
   have dP:lx p∣pF id L:=dvd_trans (ew▸gp.l) dW;have tp:=hD _ mP dP;have lp:=cZ.2 p0;have ew2:lx w=pF (kW (n+1)) L*lx p:=by rw[ew,ep,Ns,mul_comm]
   have Dh:∀x:List Rat,x.length≤9→(t+1)*(x.length+1-p.length)≤(t+1)*9:=λx hx=>lJ _ af
   have c4:=OH (s:=s) (t:=t) (u:=t) (a:=w) (b:=p) af qp p0 af (by have:=j3 gp.l (Df hw w0);rw[dK qp,dK hw]at this;omega) tw tp (by have:=Dh w af;omega) af;have JW:lx (ik w p)=pF (kW (n+1)) L:=yO mP.ne ((AJ hw qp p0 gp.l).symm.trans ew2);have lpw:p.length≤w.length:=by have:=j3 gp.l (Df hw w0);rw[dK qp,dK hw]at this;exact this
   have c5:=OH (s:=s) (t:=u+t+5) (u:=t) (a:=z) (b:=p) af qp p0 af af tz tp (by have:=Dh z af;omega) af;have ezq:lx (ik z p)=y2:=yO mP.ne ((AJ qz qp p0 gp.r).symm.trans (by rw[ez,ew];exact ey2));have VA:Ht (2^((11*t+15)*(n+1))) (lx (ik z p)):=by refine lift (OG qp p0 tz tp).1 ?_;have:=Dh z af;omega
   have VB:(ik z p).length<(ik w p).length:=by have e1:=eH (vU (c:=kW (n+1)) hL.mo).ne mP.ne;rw[←ew2,dK hw,←JW,dK (F9 w p),dK qp]at e1;have e2:=ae7 z p;omega
   obtain⟨xJ,o1,o2,o3⟩:=afg hs ht EG hL hF hD k (n+1) (ik w p) (ik z p) (if 1<p.length then acc++[(p,(n:Int))]else acc) af af af (F9 w p) (F9 z p) JW (by rw[ezq];exact hY2) VA VB;have e9:acc++((if 1<p.length then[(p,(n:Int))]else[])++xJ)=(if 1<p.length then acc++[(p,(n:Int))]else acc)++xJ:=by split<;>simp
   refine⟨(if 1<p.length then[(p,(n:Int))]else[])++xJ,by rw[De,aw hc];exact⟨dw,z,p,ik w p,ik z p,c1,c2,c3,c4,c5,by rw[e9];exact o1⟩,?_,?_⟩
   ·rw[eh,o2,ph,←ep,dK qp];congr 1;split<;>rfl
   ·intro q hq;rcases b6.1 hq with h|h
    ·split at h
     ·rw[jJ.1 h];exact qp
     ·simp at h
    ·exact o3 q h
  ·refine⟨[],by rw[De,aq hc];exact kB _,?_,by simp⟩;rw[afd];rfl;intro x hx;by_cases e:n<la
   ·have OJ:w.length=1:=by have:=cZ.2 w0;omega
    have e1:pF (kW n) L=1:=mW.unit (by rw[←ew,dK hw];exact OJ);refine Nat.lt_of_not_le λhle=>?_
    have:=FN (c:=kW n) hx (by rw[CR.2 hle];omega);rw[e1]at this;exact(hL.ig x hx).xq this
   ·have:=aff hL hx;omega
def aq0{t:Nat}(ht:t≤1500){a:List Rat}(ha:cO a)(h0:a≠[])(la:a.length≤9)(hA:Ht (2^t) (lx a)){L:List (Rx×Nat)}(hL:FL L)(hF:pF id L=lx (c9 a))(hD:∀D,Mo D→D∣pF id L→Ht (2^t) D):
  ∃out,m9 Tryz.prog 134 [cS .q a] 80 UT out∧out.map (λp=>(lx p.1,p.2))=ph L a.length 1∧∀p∈out,cO p.1:=by
 have hl:=cZ.2 h0
 have hm:=A9 ha h0
 have lm:=JT ha
 obtain⟨s,hs⟩:∃s,s=100000000:=⟨_,ae⟩
 have lift:∀{a b:Nat}{A:Rx},Ht (2^a) A→a≤b→Ht (2^b) A:=λh kQ=>h.le (jV ak kQ)
 have tF:Ht (2^t) (lx (c9 a)):=by rw[←hF];exact hD _ (hF▸hm) (dvd_refl _)
 have Jv:=hA.qs (s:=s) (ry af) (a.length-1)
 have c1:=afc (s:=s) (t:=t) (a:=a) af af hA af
 have ed:lx (eo (nl a))=bG (lx a):=by rw[wg,ae6]
 have qd:=zd (nl a)
 have tdn:∀{A:Rx},sz A≤9→Ht (2^t) A→Ht (2^(t+4)) (bG A):=λhz h=>(h.bG hz af).le (by rw[py,ix];exact lJ _ ak)
 have td:Ht (2^(t+4)) (lx (eo (nl a))):=by rw[ed];exact tdn (by rw[dK ha];omega) hA
 have ld:(eo (nl a)).length<a.length:=by have:=Iw (Q:=lx a);rw[←ed,dK qd,dK ha]at this;omega
 generalize eo (nl a)=d at*
 have Vz:3^a.length≤19683:=dF (jV ak (show a.length≤9 by omega)) ak
 obtain⟨g,c2,qg,gg⟩:=afb (s:=s) (t:=t+4) (a:=a) (b:=d) af ha qd h0 (.inr ld) af (lift hA af) td (by refine dF (lJ _ Vz) ?_;omega)
 obtain⟨c,ec⟩:∃c,c=(a.getD (a.length-1) 0)⁻¹ :=⟨_,ae⟩
 have nE:c≠0:=by rw[ec];exact tJ (ha.ne h0)
 have eM:lx (c9 a)=K c*lx a:=by rw[Dg h0,ec]
 have gF:Jd (lx g) (pF id L) (bG (pF id L)):=by obtain⟨g1,g2,g3,U,V,g4⟩:=gg;rw[hF,eM,E9];rw[ed]at g3 g4;refine⟨g1,fl g2 _,fl g3 _,U*K c⁻¹,V*K c⁻¹,?_⟩;have e1:U*K c⁻¹ *(K c*lx a)+V*K c⁻¹ *(K c*bG (lx a))=(K c⁻¹ *K c)*(U*lx a)+(K c⁻¹ *K c)*(V*bG (lx a)):=kN;rw[e1,pT nE,one_mul,one_mul];exact g4
 obtain⟨eg,Y,eY,hY⟩:=amW hL gF
 have mg:=gg.mo
 have g0:g≠[]:=λe=>by rw[e,xC]at mg;exact mg.ne ae
 have tg:=hD _ mg gF.l
 have lg:=cZ.2 g0
 have c3:aG Tryz.prog 199 [cS .q a] (cS .q (c9 a)):=by have:=adU (s:=s) af af a h0 af (ha.ne h0) (λi=>hA.qs (ry af) i) (Jv.inv (ha.ne h0));rw[c9,aq h0];exact this
 have Dh:∀x:List Rat,x.length≤9→(t+1)*(x.length+1-g.length)≤(t+1)*9:=λx hx=>lJ _ af
 have lga:g.length≤(c9 a).length:=by have:=j3 gF.l (vU hL.mo).ne;rw[hF,dK qg,dK (uN a)]at this;exact this
 have c4:=OH (s:=s) (t:=t) (u:=t) (a:=c9 a) (b:=g) af qg g0 af af tF tg (by have:=Dh (c9 a) af;omega) af
 have c5:=adT (s:=s) af a h0 af (ha.ne h0) Jv
 rw[←ec]at c5
 have JX:QS s c:=by rw[ec];exact Jv.inv (ha.ne h0)
 have c6:=UW (s:=s) af af c d af JX (λi=>td.qs (ry af) i)
 have VC:lx (eo (oz c d))=bG (pF id L):=by rw[wg,ae5,ed,hF,eM,E9]
 have qsd:=zd (oz c d)
 have lsd:(eo (oz c d)).length≤d.length:=by refine dF (OB _) ?_;rw[oz,dM];exact bD _
 generalize eo (oz c d)=sd at*
 have tsd:Ht (2^(t+4)) (lx sd):=by rw[VC,hF];exact tdn (by rw[dK (uN a)];omega) tF
 have c7:=OH (s:=s) (t:=t+4) (u:=t) (a:=sd) (b:=g) af qg g0 af af tsd tg (by have:=Dh sd af;omega) af
 have JW:lx (ik (c9 a) g)=pF (kW 1) L:=yO mg.ne ((AJ (uN a) qg g0 (hF▸gF.l)).symm.trans (by rw[←hF,Nt hL,eg]))
 have eyq:lx (ik sd g)=Y:=yO mg.ne ((AJ qsd qg g0 (by rw[VC];exact gF.r)).symm.trans (by rw[VC];exact eY))
 have VA:Ht (2^((11*t+15)*1)) (lx (ik sd g)):=by refine lift (OG qg g0 tsd tg).1 ?_;have:=Dh sd af;omega
 have VB:(ik sd g).length<(ik (c9 a) g).length:=by have e1:=eH (vU (c:=kW 1) hL.mo).ne mg.ne;rw[eg,←Nt hL,←eg,hF,dK (uN a),←JW,dK (F9 _ g),dK qg]at e1;have e2:=ae7 sd g;omega
 obtain⟨xJ,o1,o2,o3⟩:=afg (la:=a.length) hs ht la hL (by rw[hF,dK (uN a),lm]) hD a.length 1 (ik (c9 a) g) (ik sd g) [] af af af (F9 _ g) (F9 sd g) JW (by rw[eyq];exact hY) VA VB
 exact⟨xJ,aqL a d g (c9 a) (ik (c9 a) g) sd (ik sd g) c af c1 c2 c3 c4 c5 c6 c7 a.length xJ o1,o2,o3⟩
end Go.El
namespace Go.El
open Go Go.Proofs
namespace Rx
def OK(t:Rat)(m:Nat):∀n:Nat,t^(m+n)=t^m*t^n
 |0=>by rw[kg,zE,Bv]
 |n+1=>by rw[←tO,zF,OK t m n,zF,u4]
def VD(s t:Rat):∀n:Nat,(s*t)^n=s^n*t^n
 |0=>by rw[zE,zE,zE,Bv]
 |n+1=>by rw[zF,zF,zF,VD s t n];grind
def VE:∀n:Nat,(1:Rat)^n=1
 |0=>zE _
 |n+1=>by rw[zF,VE n,Bv]
def F'{t:Rat}(h:t≠0):∀n:Nat,t^n≠0
 |0=>by rw[zE];decide
 |n+1=>λe=>by
  rw[zF]at e;rcases DJ.1 e with e|e
  ·exact F' h n e
  ·exact h e
def gX(t:Rat)(A:Rx):Rx:=⟨λi=>t^i*A i,by obtain⟨n,hn⟩:=A.2;exact⟨n,λi hi=>by show t^i*A.v i=0;rw[hn i hi,jA]⟩⟩
def p8(t:Rat)(A:Rx)(i:Nat):gX t A i=t^i*A i:=rfl
def OL(t:Rat)(A B:Rx):gX t (A*B)=gX t A*gX t B:=ext λn=>by
 rw[p8,gW,gW,←No];refine vS λi hi=>?_
 rw[p8,p8];have:t^n=t^i*t^(n-i):=by rw[←OK,show i+(n-i)=n by omega]
 rw[this];grind
def aq3(t:Rat)(A B:Rx):gX t (A+B)=gX t A+gX t B:=ext λn=>by rw[p8,fP,fP,p8,p8,Rat.mul_add]
def aq4(t c:Rat):gX t (K c)=K c:=ext λn=>by
 rw[p8,tC];split
 ·rename_i h;rw[h,zE,zI]
 ·rw[jA]
def afm(t:Rat):gX t 1=1:=aq4 t 1
def afn(s t:Rat)(A:Rx):gX s (gX t A)=gX (s*t) A:=ext λn=>by rw[p8,p8,p8,VD,u4]
def afo(A:Rx):gX 1 A=A:=ext λn=>by rw[p8,VE,zI]
def aq5(t:Rat)(A:Rx):bG (gX t A)=K t*gX t (bG A):=ext λn=>by rw[sn,p8,iE,p8,sn,zF];grind
def ON{t:Rat}(ht:t≠0)(A:Rx):sz (gX t A)=sz A:=by
 have key:∀(s:Rat)(B:Rx),sz (gX s B)≤sz B:=λs B=>vT λi hi=>by rw[p8,oq hi,jA]
 have h1:=key t A;have h2:=key t⁻¹ (gX t A);rw[afn,oJ t ht,afo]at h2;omega
def cj.gX{t:Rat}(ht:t≠0){A:Rx}(h:cj A):cj (gX t A):=by
 refine⟨by rw[ON ht];exact h.1,λX Y e=>?_⟩;have e2:A=Rx.gX t⁻¹ X*Rx.gX t⁻¹ Y:=by rw[←OL,←e,afn,oJ t ht,afo]
 have:=h.2 _ _ e2;rwa[ON (tJ ht),ON (tJ ht)]at this
def Co.gX{t:Rat}{A B:Rx}(h:Co A B):Co (gX t A) (Rx.gX t B):=by obtain⟨U,V,e⟩:=h;refine⟨Rx.gX t U,Rx.gX t V,?_⟩;rw[←OL,←OL,←aq3,e,afm]
noncomputable def mS(t:Rat)(A:Rx):Rx:=K (t^(sz A-1))*gX t⁻¹ A
def afp{t:Rat}(ht:t≠0)(A:Rx):sz (mS t A)=sz A:=by
 by_cases h:A=0
 ·subst h;have e:gX t⁻¹ 0=(0:Rx):=ext λi=>by rw[p8,lZ,jA]
  rw[mS,e,mul_zero]
 ·have h1:=ON (tJ ht) A;have h2:gX t⁻¹ A≠0:=λe=>by rw[e,kJ]at h1;have:=eP h;omega
  have h3:=eH (tq (F' ht (sz A-1))) h2;rw[ts (F' ht _),h1]at h3;show sz (K _*_)=_;omega
def JY{t:Rat}(ht:t≠0)(n:Nat):t^n*t⁻¹ ^n=1:=by rw[←VD,Rat.mul_inv_cancel t ht,VE]
def JZ{t:Rat}(A:Rx)(i:Nat):mS t A i=t^(sz A-1)*(t⁻¹ ^i*A i):=by rw[mS,iE,p8]
def aq6{t:Rat}(ht:t≠0){A:Rx}(h:Mo A):Mo (mS t A):=by rw[Mo,afp ht,JZ,←u4,JY ht,zI];exact h
def aq7(t:Rat):mS t 1=1:=by rw[mS,oY,afm,mul_one];show K (t^0)=1;rw[zE,l7]
def aq8{t:Rat}{A B:Rx}(hA:A≠0)(hB:B≠0):mS t (A*B)=mS t A*mS t B:=by have h:=eH hA hB;have h1:=eP hA;have h2:=eP hB;rw[mS,mS,mS,OL,show sz (A*B)-1=(sz A-1)+(sz B-1)by omega,OK,gw];ac_rfl
def aq9{t:Rat}(ht:t≠0)(A:Rx):mS t⁻¹ (mS t A)=A:=ext λi=>by rw[JZ,JZ,afp ht,Rat.inv_inv];have h1:=JY ht (sz A-1);have h2:=JY ht i;grind
def aq'{t:Rat}(ht:t≠0){A:Rx}(h:cj A):cj (mS t A):=cj.smul (h.gX (tJ ht)) (F' ht _)
def ara{t:Rat}(ht:t≠0){A:Rx}(h:Co A (bG A)):Co (mS t A) (bG (mS t A)):=by have hu:=F' ht (sz A-1);have hv:=tJ ht;obtain⟨U,V,e⟩:=h.gX (t:=t⁻¹);refine⟨K (t^(sz A-1))⁻¹ *U,K (t^(sz A-1))⁻¹ *(K (t⁻¹)⁻¹ *V),?_⟩;rw[mS,E9,aq5,←e];have e1:=pT hu;have e2:=pT hv;have a1:K (t^(sz A-1))⁻¹ *U*(K (t^(sz A-1))*gX t⁻¹ A)=(K (t^(sz A-1))⁻¹ *K (t^(sz A-1)))*(U*gX t⁻¹ A):=kN;have a2:K (t^(sz A-1))⁻¹ *(K (t⁻¹)⁻¹ *V)*(K (t^(sz A-1))*(K t⁻¹ *gX t⁻¹ (bG A)))=(K (t^(sz A-1))⁻¹ *K (t^(sz A-1)))*((K (t⁻¹)⁻¹ *K t⁻¹)*(V*gX t⁻¹ (bG A))):=kN;rw[a1,a2,e1,e2,one_mul,one_mul,one_mul]
end Rx
end Go.El
namespace Go.El
open Go Go.Proofs Rx
def j8(a:List Rat):Nat→Nat
 |0=>1
 |i+1=>j8 a i*((a.getD i 0).den/Nat.gcd (j8 a i) (a.getD i 0).den)
def ef(a:List Rat):Nat:=j8 a a.length
def p9(a:List Rat):List Int:=(List.range a.length).map λk=>(a.getD k 0).num*((ef a:Nat):Int)^(a.length-1-k)/((a.getD k 0).den:Int)
def ml(c:Nat)(g:List Int):List Rat:=(List.range g.length).map λk=>Rat.divInt (g.getD k 0) ((c:Int)^(g.length-1-k))
noncomputable def wi(a:List Rat):List (List Rat):=(uM (p9 a)).map (ml (ef a))
noncomputable def zg:List (List Rat)→Rx
 |[]=>1
 |u::l=>lx u*zg l
def VF(a:List Rat)(i:Nat):j8 a (i+1)=Nat.lcm (j8 a i) (a.getD i 0).den:=by rw[j8,Nat.lcm,Nat.mul_div_assoc _ (WT _ _)]
def OO(a:List Rat):∀i,∀j,j<i→(a.getD j 0).den∣j8 a i
 |0,_,h=>by omega
 |i+1,j,h=>by
  rw[VF];by_cases e:j=i
  ·subst e;exact Nat.dvd_lcm_right _ _
  ·exact PG (OO a i j af) (Nat.dvd_lcm_left _ _)
def afq(a:List Rat){D:Nat}(h:∀j,(a.getD j 0).den∣D):∀i,j8 a i∣D
 |0=>Nat.one_dvd _
 |i+1=>by rw[VF];exact Nat.lcm_dvd (afq a h i) (h i)
def OP(a:List Rat):∀i,0<j8 a i
 |0=>Nat.zero_lt_one
 |i+1=>by rw[VF];exact Nat.lcm_pos (OP a i) (a.getD i 0).den_pos
def Di(a:List Rat):(p9 a).length=a.length:=by simp[p9]
def OQ(a:List Rat){k:Nat}(h:k<a.length):(p9 a).getD k 0=(a.getD k 0).num*((ef a:Nat):Int)^(a.length-1-k)/((a.getD k 0).den:Int):=by unfold p9;rw[aU,kc,oI h];rfl
def VG(r:Rat){D:Int}(h:(r.den:Int)∣D):((r.num*D/(r.den:Int):Int):Rat)=(D:Rat)*r:=by
 obtain⟨e,rfl⟩:=h;have hd:(r.den:Int)≠0:=by have:=r.den_pos;omega
 have h1:r.num*((r.den:Int)*e)/(r.den:Int)=r.num*e:=by rw[show r.num*((r.den:Int)*e)=(r.num*e)*(r.den:Int)by ac_rfl,Int.mul_ediv_cancel _ hd]
 rw[h1,jz,jz,←Nz r];have:(((r.den:Nat):Int):Rat)=((r.den:Nat):Rat):=rfl;rw[this];grind
structure qc(a:List Rat):Prop where
 one:a.getD (a.length-1) 0=1
 l2:2≤a.length
 l9:a.length≤9
 co:Co (lx a) (bG (lx a))
 aB:∀i,aW 6 ((p9 a).getD i 0)
section
variable{a:List Rat}
def J0(a:List Rat):((ef a:Nat):Rat)≠0:=AS (WM.1 (OP a _))
def qc.can(h:qc a):cO a:= .inr (by rw[h.one];decide)
def qc.sz(h:qc a):Rx.sz (lx a)=a.length:=dK h.can
def VH(c:Nat):∀n:Nat,(((c:Int)^n:Int):Rat)=((c:Nat):Rat)^n
 |0=>by rw[wJ,zE];rfl
 |n+1=>by rw[fU,jz,VH c n,zF];rfl
def afr{t:Rat}(ht:t≠0){m k:Nat}(h:k≤m):t^m*t⁻¹ ^k=t^(m-k):=by
 have e:t^m=t^(m-k)*t^k:=by rw[←OK,show m-k+k=m by omega]
 rw[e,u4,JY ht,Bv]
def qc.zx(h:qc a):Rx.zx (p9 a)=mS ((ef a:Nat):Rat) (lx a):=Rx.ext λi=>by
 rw[mj,JZ,h.sz,mR];by_cases hi:i<a.length
 ·rw[OQ a hi,VG,VH,←u4,afr (J0 a) af];by_cases e:i=a.length-1
  ·rw[e,h.one];exact Int.one_dvd _
  ·have h1:(a.getD i 0).den∣ef a:=OO a _ i hi;have h2:((a.getD i 0).den:Int)∣((ef a:Nat):Int):=Dz.2 h1;obtain⟨j,hj⟩:∃j,a.length-1-i=j+1:=⟨a.length-1-i-1,by omega⟩;rw[hj,fU];exact KF h2 (Pt _ _)
 ·rw[dH _ (by rw[Di];omega),kY a af,jA,jA];rfl
def qc.bT(h:qc a):bT (p9 a):=by have h1:=h.l2;refine⟨λe=>by have:=Di a;rw[e]at this;simp at this;omega,?_⟩;rw[Di,OQ a af,h.one,iw,wJ];rfl
def qc.mf(h:qc a):oD (p9 a):=by
 have l2:=h.l2;have l9:=h.l9;refine⟨h.bT,by rw[Di];exact l2,by rw[Di];exact l9,h.aB,?_⟩;obtain⟨n,hn⟩:∃n,a.length=n+2:=⟨a.length-2,by omega⟩;have FX:Co (Rx.zx (p9 a)) (bG (Rx.zx (p9 a))):=by rw[h.zx];exact ara (J0 a) h.co
 refine aoj (n:=n) (by rw[Di];exact hn) h.bT FX (B:=2^192) ak (λi=>?_) ?_
 ·have:=h.aB i;unfold aW at this;have e:(4294967296:Nat)^6=2^192:=ak;omega
 ·have e1:2*((2*n+2)*((n+1)*2^192))≤2^200:=by have h1:(2*n+2)*(n+1)≤16*8:=my af af;have h2:=eJ (2^192) h1;rw[←zC (2*n+2)];omega
  refine dF (GA e1 _) ?_;refine dF (jV ak (show 2*n+1≤15 by omega)) ?_;decide+kernel
def afs(c:Nat)(g:List Int):(ml c g).length=g.length:=by simp[ml]
def afu(c:Nat)(g:List Int){k:Nat}(h:k<g.length):(ml c g).getD k 0=Rat.divInt (g.getD k 0) ((c:Int)^(g.length-1-k)):=by unfold ml;rw[aU,kc,oI h];rfl
def arb(z:Int){c:Nat}(hc:0<c)(n:Nat):Rat.divInt z ((c:Int)^n)=((c:Nat):Rat)⁻¹ ^n*(z:Rat):=by
 have h0:((c:Nat):Rat)≠0:=AS af;rw[WV,VH,Rat.div_def];have h1:=JY h0 n;have h2:(((c:Nat):Rat)^n)⁻¹ =((c:Nat):Rat)⁻¹ ^n:=by have h3:=oJ _ (F' h0 n);grind
 rw[h2,PL]
def afv{c:Nat}(hc:0<c){g:List Int}(hg:Go.El.bT g):lx (ml c g)=mS ((c:Nat):Rat)⁻¹ (Rx.zx g):=Rx.ext λi=>by
 have h0:((c:Nat):Rat)≠0:=AS af;rw[JZ,mT (bT.can hg),mj,mR];by_cases hi:i<g.length
 ·rw[afu c g hi,arb _ hc,←u4,afr (tJ h0) af]
 ·rw[kY _ (by rw[afs];omega),dH g af];show(0:Rat)=_*(_*((0:Int):Rat));rw[show((0:Int):Rat)=0 from ae,jA,jA]
def afw{c:Nat}{g:List Int}(hg:Go.El.bT g):(ml c g).getD ((ml c g).length-1) 0=1:=by have:=cZ.2 hg.1;rw[afs,afu c g af,hg.2,iw,wJ];rfl
def afx{c:Nat}(hc:0<c):∀{gs:List (List Int)},(∀g∈gs,Go.El.bT g)→zg (gs.map (ml c))=mS ((c:Nat):Rat)⁻¹ (sx gs)
 |[],_=>(aq7 _).symm
 |g::gs,h=>by
  have hz:sx gs≠0:=by
   have key:∀{gs:List (List Int)},(∀g∈gs,Go.El.bT g)→sx gs≠0:=by
    intro gs;induction gs with
    |nil=>intro _;exact oh
    |cons g gs ih=>intro h;exact oX (ou (h g be)).ne (ih λx hx=>h x kZ)
   exact key λx hx=>h x kZ
  rw[jL,zg,sx,aq8 (ou (h g be)).ne hz,afv hc (h g be),afx hc λx hx=>h x kZ]
def J1(h:qc a):(∀u∈wi a,u.getD (u.length-1) 0=1∧cO u∧Mo (lx u)∧cj (lx u))∧zg (wi a)=lx a:=by
 obtain⟨h1,h2⟩:=ae1 h.mf;have hc:0<ef a:=OP a _;refine⟨λu hu=>?_,?_⟩
 ·obtain⟨g,hg,rfl⟩:=nW.1 hu;obtain⟨g1,g2⟩:=h1 g hg;rw[afv hc g1];exact⟨afw g1,.inr (by rw[afw g1];decide),aq6 (tJ (J0 a)) (ou g1),aq' (tJ (J0 a)) g2⟩
 ·rw[wi,afx hc λg hg=>(h1 g hg).1,h2,h.zx,aq9 (J0 a)]
end
end Go.El
namespace Go.El
open Go Go.Proofs
def VI(m:Nat):Bool:=Nat.beq (m%2) 0||(!(Nat.beq (Aw 2 (m-1) m) 1)||gJ.any (Nat.beq m))
def J2:Nat→Nat→Bool
 |0,l=>VI (1073741825+l)
 |d+1,l=>J2 d (2*l)&&J2 d (2*l+1)
def VJ:∀(d l:Nat),J2 d l=true→∀x,x<2^d→VI (1073741825+(2^d*l+x))=true
 |0,l,h,x,hx=>by
  have:x=0:=by simpa using hx
  subst this;rw[xY,jb,kg];exact h
 |d+1,l,h,x,hx=>by
  rw[J2,eX]at h;rw[jl]at hx⊢;by_cases e:x<2^d
  ·have:=VJ d _ h.1 x e;rwa[show 2^d*(2*l)=2^d*2*l by ac_rfl]at this
  ·have:=VJ d _ h.2 (x-2^d) af;rwa[show 2^d*(2*l+1)+(x-2^d)=2^d*2*l+x by rw[DN,show 2^d*(2*l)=2^d*2*l by ac_rfl];omega]at this
def arc:J2 11 0=true:=fR
def ard{m:Nat}(h1:1073741824<m)(h2:m<1073743872)(h:m∉gJ):aG Tryz.prog 60 [cU m] (cB false):=by
 have hc:=VJ 11 0 arc (m-1073741825) (by show _<2048;omega);rw[KK,eZ,show 1073741825+(m-1073741825)=m by omega,VI,zz,zz]at hc;refine ana m af af ?_;rcases hc with hc|hc|hc
 ·exact .inl (DC hc)
 ·refine .inr λe=>?_
  rw[Mf 2 (m-1) m af af,e]at hc;cases hc
 ·obtain⟨y,hy,e⟩:=List.any_eq_true.1 hc;exact absurd (by rw[DC e];exact hy) h
def are{n p:Nat}(hn:1073741824≤n)(hp:p∈gJ)(Ml:n<p)(dY:∀m,n<m→m<p→m∉gJ):aG Tryz.prog 256 [cU n] (.t [(false,[.I .u64 p]),(false,[.I .i64 0])]):=by obtain⟨b1,b2⟩:=vY hp;exact am' n p Ml af (λm g1 g2=>ard af af (dY m g1 g2)) (Sk p (NA hp) af)
end Go.El
namespace Go.El
open Go Go.Proofs Fx
def arf:((List.zip gJ (gJ.tail)).all λx=>Nat.blt x.1 x.2)=true:=fR
def afy:∀{l:List Nat},((List.zip l l.tail).all λx=>Nat.blt x.1 x.2)=true→l.Pairwise (·<·)
 |[],_=>List.Pairwise.nil
 |[x],_=>Pl _ _
 |x::y::l,h=>by
  simp only[List.tail_cons,List.zip_cons_cons,List.all_cons,eX]at h;have h1:x<y:=by have:=h.1;unfold Nat.blt at this;exact cY this
  have h2:=afy (l:=y::l) h.2;refine jW.2 ⟨λz hz=>?_,h2⟩;rcases dC.1 hz with rfl|hz
  ·exact h1
  ·exact Nat.lt_trans h1 ((jW.1 h2).1 z hz)
def arh:gJ.Pairwise (·<·):=afy arf
structure Ga(a:List Int)(n:Nat)(rest:List Nat):Prop where
 n0:1073741824≤n
 pre:∃pre,gJ=pre++rest∧(∀q∈pre,q≤n)∧∀q∈pre,rv q a=false
 lt:∀q∈rest,n<q
 ex:∃q∈rest,rv q a=true
def oD.pr0{a:List Int}(h:oD a):Ga a 1073741824 gJ:=by obtain⟨p,_,f2,f3⟩:=h.wa;exact⟨bD _,⟨[],ae,λq hq=>(by cases hq),λq hq=>(by cases hq)⟩,λq hq=>(vY hq).1,⟨p,f2,f3⟩⟩
def Ga.step{a:List Int}{n:Nat}{rest:List Nat}(h:Ga a n rest):∃q r,rest=q::r∧q∈gJ∧n<q∧(∀m,n<m→m<q→m∉gJ)∧(rv q a=true→gJ.find? (rv · a)=some q)∧(rv q a=false→Ga a q r):=by
 obtain⟨h1,⟨pre,h2,h3,h4⟩,h5,⟨g,h6,h7⟩⟩:=h;cases rest with
 |nil=>cases h6
 |cons q r=>
  have hs:=arh
  rw[h2]at hs
  have sk:=jW.1 (Bh.1 hs).2.1
  have hq:n<q:=h5 q be
  refine⟨q,r,ae,by rw[h2];simp,hq,λm qE mJ hm=>?_,λhg=>?_,λhg=>⟨by omega,⟨pre++[q],by rw[h2,np];rfl,λx hx=>?_,λx hx=>?_⟩,sk.1,?_⟩⟩
  ·rw[h2]at hm;rcases b6.1 hm with e|e
   ·have:=h3 m e;omega
   ·rcases dC.1 e with e|e
    ·omega
    ·have:=sk.1 m e;omega
  ·rw[h2,List.find?_append,KA.2 (λx hx=>by rw[h4 x hx];decide)];simp[hg]
  ·rcases b6.1 hx with e|e
   ·have:=h3 x e;omega
   ·rw[jJ.1 e];omega
  ·rcases b6.1 hx with e|e
   ·exact h4 x e
   ·rw[jJ.1 e];exact hg
  ·rcases dC.1 h6 with e|e
   ·rw[e,hg]at h7;cases h7
   ·exact⟨g,e,h7⟩
def afz{x y:Int}:dz x y≤0↔x≤y:=by
 unfold dz;split
 ·omega
 ·split<;>omega
def di.afA(E:TypeId)(z:Nat)(c d:C):di (.box E z [c,d]) (.box E z [.any,.any]):=⟨λN g W id h=>by obtain⟨b,vs,rest,h1,h2,h3,h4⟩:=h;obtain⟨v,r,rfl,_,v2,r2,rfl,_,h5⟩:=h3;exact⟨b,_,rest,h1,h2,⟨v,_,ae,ah,v2,r2,ae,ah,h5⟩,h4⟩,λid h=>by cases h⟩
set_option maxRecDepth 100000 in
set_option maxHeartbeats 16000000 in
def arj{a:List Int}(h:oD a):aG Tryz.prog 204 [cS .z a] (cS (.sl .z) (uM a)):=by
 refine aX Tryz.func204 ae ae ae ae ae ak ?_;have l2:=h.l2;have l9:=h.l9;have NP:∀i,Sm (a.getD i 0):=λi=>(h.aB i).sm ak
 refine rr ae (aj (rr ae (ax ae (λh2=>?_) (λh2=>?_))))
 ·have h2:a.length=2:=by have h2:((a.length:Int)==2)=true:=h2;have:=eq_of_beq h2;omega
  rw[aeY h2];refine rb (rl (.sl .z) [a] ae ae (re ae (aF (bS (aL ar ae (au.refl _))))))
 ·have h2:a.length≠2:=λe=>by have h2:((a.length:Int)==2)=false:=h2;rw[e]at h2;cases h2
  refine aC (ai (rr ae (rr ae ?_)));refine aj (aH (bA (α:=Nat×List Nat) (λs=>⟨[(0,cS .z a),(3,cU s.1),(4,.c (.P 3000000 0))],[(3000000,.box 101 0 [.any,.any])],4,[]⟩) (λs=>Ga a s.1 s.2) (λs=>s.2.length) (1073741824,gJ) h.pr0 (wk ⟨sR ae,sR ae,sR ae,ah⟩ ⟨⟨_,ae,di.afA _ _ _ _⟩,ah⟩) ?_));rintro⟨n,rest⟩ hP;have hP:Ga a n rest:=hP;obtain⟨q,r,rfl,q1,q2,q3,q4,q5⟩:=hP.step;have H:=OA q1;obtain⟨b1,b2⟩:=vY q1;have hf:bX q (a7 (md q a)):=nJ H.pos (Cp H.pos a);have hd:bX q (a7 (fC q (a7 (md q a)))):=nJ H.pos (Nc af _);have OR:a7 (md q a)=md q a:=(h.am.md af).trim;have oQ:(a7 (md q a)).length=a.length:=by rw[OR,yF]
  have iU:a7 (md q a)≠[]:=λe=>by rw[e]at oQ;simp at oQ;omega
  have Nd:(a7 (fC q (a7 (md q a)))).length≤500:=by have:=vJ (fC q (a7 (md q a)));rw[IZ]at this;omega
  have jP:(gx q (a7 (md q a)) (a7 (fC q (a7 (md q a))))).length≤1000000:=by obtain⟨m1,m2,_⟩:=Ff H hf hd iU;have h1:=j3 H m2 (λe=>iU (by rw[←og]at e;exact xo hf (vI H.pos) e));rw[dj m1.c,dj hf]at h1;omega
  refine aH (rb (rc ae ae (are hP.n0 q1 q2 q3) (re ae ?_)));refine rb (rc ae ae (TV a q af af af NP) (re ae ?_));refine rb (rc ae ae (abu H _ af hf.1) (rc ae ae (Mm q H.hp H.le _ _ af Nd hf hd iU) (rc ae ae (uv _ q jP) (re ae ?_))));refine ax ae (λhg=>?_) (λhg=>?_)
  ·have hg:rv q a=true:=by have hg:(((gx q (a7 (md q a)) (a7 (fC q (a7 (md q a))))).length:Int)-1==0)=true:=hg;have:=eq_of_beq hg;exact oK af
   have hm:=h.md q1 hg;have IU:Mon q (a7 (md q a)):=by rw[OR];exact hm.f.1
   have IY:(fx (a7 (md q a)):Fx q)=fx a:=by rw[OR];exact hm.f.2.2
   have oi:=abr H _ IU af af (by rw[IY];exact hm.vO);have hLs:nO H (a7 (md q a))=hm.Ls:=by rw[OR];rfl
   rw[hLs]at oi;have qW:=ab8 a 6 ak af h.aB;have hbB:=h.bB;have hB7:aW 8 ((fk a:Nat):Int):=by unfold aW at*;rw[pt]at*;omega
   have e2:((fk a:Nat):Int)+((fk a:Nat):Int)=((2*fk a:Nat):Int):=af;have pX:=Av _ _ (hB7.sm ak) (hB7.sm ak);rw[e2]at pX;refine bh (Ho (bq (bp (ai ?_))));refine rb (rc ae ae oi (re ae (rb (rc ae ae qW (re ae (rb (rc ae ae pX (re ae (rb (rc ae ae (oT q af af) (re ae ?_)))))))))));obtain⟨k1,k2,k3⟩:=JR (p:=q) af (2*fk a);obtain⟨m1,m2⟩:=h.mB q1;have afC:=ac9 (h.liA q1 hm);rw[aqG]at afC;have cy:=aqC (h.rn q1 hm) (hm.cbH k1 k2) (λe=>hm.Lne (iu (by rw[←hm.F8,e];rfl)));rw[←aeZ hm h2 (q4 hg)]at cy;have Vj:hm.lf (lH q (2*fk a))=AW q a (λi=>hm.Ls.getD i []) hm.Ls.length (lH q (2*fk a)):=rfl;rw[Vj]at cy;generalize uM a=Rr at*;have jM:∀k,k≤lH q (2*fk a)→aW 9 ((q:Int)^k):=λk hk=>by unfold aW at*;rw[←uX,pt]at*;exact zy (jV af hk) m1
   generalize lH q (2*fk a)=K at*;refine aj (aH (bA (α:=Nat) (λk=>⟨[(0,cS .z a),(3,cU q),(5,cS PT (lP q hm.Ls)),(6,.c (.P 8002000 0)),(7,.c (.P 10003000 0)),(8,cI k)],[(8002000,.box 44 0 (av .z ((2*fk a:Nat):Int))),(10003000,.box 44 0 (av .z ((q:Int)^k)))],12,[]⟩) (λk=>1≤k∧k≤K) (λk=>K-k) 1 ⟨bD _,k1⟩ (wk ⟨sR ae,sR ae,sR ae,sR ae,sR ae,sE ae ae,ah⟩ ⟨bE ae ae,bE ae ?_,ah⟩) ?_))
   ·refine ay (λz=>aK.box 44 0 (av .z z)) ?_;rw[fU,wJ,ja]
   rintro k ⟨i1,i2⟩;refine aj (rb (rc ae ae (LX ((q:Int)^k) ((2*fk a:Nat):Int)) (re ae (ax ae (λh3=>?_) (λh3=>?_)))))
   ·have h3:q^k≤2*fk a:=by have h3:dz ((q:Int)^k) ((2*fk a:Nat):Int)≤0:=a9 h3;rw[afz,←uX]at h3;omega
    have hk:k<K:=by
     rcases wI k K with e|e
     ·exact e
     ·have:k=K:=by omega
      subst this;omega
    have hmul:=uu ((q:Int)^k) q ((jM k i2).sm ak) ((aW.one (a:=(q:Int)) af).sm ak);rw[←fU]at hmul;refine aC (ai (aH (rb (rc ae ae (oT q af af) (rc ae ae hmul (re ae (rt ae (a6 (a8 (k+1) ⟨by omega,hk⟩ (by show K-(k+1)<K-k;omega) (wk ⟨sR ae,sR ae,sR ae,sR ae,sR ae,sE ae ae,ah⟩ ⟨bE ae ae,bE ae ae,ah⟩))))))))))
   ·have h3:2*fk a<q^k:=by have h3:¬dz ((q:Int)^k) ((2*fk a:Nat):Int)≤0:=bC h3;rw[afz,←uX]at h3;omega
    have hk:k=K:=by
     rcases wI k K with e|e
     ·have:=k3 k i1 e;omega
     ·omega
    subst hk;refine bh (bt (bq (bp (ai (rb (rc ae ae afC (rc ae ae cy (re ae (aF (aL ar ae (au.refl _)))))))))))
  ·have hg:rv q a=false:=by
    have hg:(((gx q (a7 (md q a)) (a7 (fC q (a7 (md q a))))).length:Int)-1==0)=false:=hg;refine kC λe=>?_
    rw[e]at hg;cases hg
   exact aC (a6 (a8 (q,r) (q5 hg) (by show r.length<(q::r).length;simp) (wk ⟨sR ae,sR ae,sR ae,ah⟩ ⟨⟨_,ae,di.afA _ _ _ _⟩,ah⟩)))
end Go.El
